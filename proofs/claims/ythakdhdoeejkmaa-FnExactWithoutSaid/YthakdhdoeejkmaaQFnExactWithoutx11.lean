-- Written by a program of this session (wip/myprint.py); Lean checks it.
import Derived.Test.YthakdhdoeejkmaaQFnExactWithoutx0
import Derived.Test.YthakdhdoeejkmaaQFnExactWithoutx9
import Derived.Test.YthakdhdoeejkmaaQFnExactWithoutx10
namespace Go.Proofs.Ythakdhdoeejkmaa.QFnExactWithout
open Go.RowKit Go.Proofs.YthakdhdoeejkmaaW.PrintWords Go.Proofs.YthakdhdoeejkmaaW.PrintLast Go.Proofs.YthakdhdoeejkmaaW.PrintMore
open Act (put)
open List (setIfInBounds_toArray set_cons_zero set_cons_succ)
attribute [local go_sem] max2_int min2_int max_two min_two max_three min_three max_four min_four   -- for this text's walks alone
set_option linter.unusedVariables false
set_option linter.unusedSimpArgs false

attribute [local go_sem] isSome_setCell
/-! ### impl_Halves: function 35 -/
def impl_Halves.f (a0_0 : Bool) (a0_1 : Int) (a0_2 : Int) (a0_3 : Int) : Option (Bool × Int × Int × Int × Bool × Int × Int × Int × Bool) := (impl_PrefixOk.f a0_0 a0_1 a0_2 a0_3).bind fun t243 => (if t243 = true then ((impl_width.f a0_0 a0_1 a0_2).bind fun t244 => (if a0_3 = t244 then (some (false, 0, 0, 0, false, 0, 0, 0, false)) else ((impl_flipped.f a0_0 a0_1 a0_2 (wrap64 (a0_3 + 1))).bind fun bt245 => (some (a0_0, a0_1, a0_2, wrap64 (a0_3 + 1), bt245.1, bt245.2.1, bt245.2.2, wrap64 (a0_3 + 1), true))))) else (some (false, 0, 0, 0, false, 0, 0, 0, false)))
def impl_Halves.T1 : Bool × List (List Nat × List Nat) := (true, [([], []), ([0], [0]), ([1], [1]), ([2, 1], [2]), ([3], [3]), ([4, 3], [3, 4]), ([3], [3]), ([6, 3], [3, 6]), ([7, 3, 3], [3, 7]), ([5, 8, 3], [3, 5, 8]), ([3, 9], [3, 9])])
def impl_Halves.B1 : List Nat := [0, 1, 3, 7, 15, 31, 15, 79, 207, 511, 1023]
theorem impl_Halves.tab1 : rtab .any (opsOf Try.f35 1) = impl_Halves.T1 := by kernel_rfl
theorem impl_Halves.bits1 : waitsOk impl_Halves.T1.2 impl_Halves.B1 = true := by kernel_rfl
def impl_Halves.T3 : Bool × List (List Nat × List Nat) := (true, [([], []), ([0], [0]), ([], []), ([2], [2]), ([3], [3]), ([1, 4], [1, 4]), ([], []), ([6], [6]), ([], []), ([8], [8]), ([9], [9]), ([7, 10], [7, 10]), ([], []), ([12], [12]), ([13], [13]), ([11, 14], [11, 14]), ([5, 11, 0, 1, 2, 3, 4, 5], [5]), ([15, 16, 0, 1, 2, 3, 4, 5, 6, 7, 8, 9, 10, 11, 12, 13, 14, 15, 16], [15]), ([17, 0, 1, 2, 3, 4, 5, 6, 7, 8, 9, 10, 11, 12, 13, 14, 15, 16, 17], [])])
def impl_Halves.B3 : List Nat := [0, 1, 0, 4, 12, 31, 0, 64, 0, 256, 768, 1984, 0, 4096, 12288, 32704, 4095, 131071, 262143]
theorem impl_Halves.tab3 : rtab .any (opsOf Try.f35 3) = impl_Halves.T3 := by kernel_rfl
theorem impl_Halves.bits3 : waitsOk impl_Halves.T3.2 impl_Halves.B3 = true := by kernel_rfl
set_option maxHeartbeats 8000000 in
set_option maxRecDepth 100000 in
theorem impl_Halves.calls (a0_0 : Bool) (a0_1 : Int) (a0_2 : Int) (a0_3 : Int) (r1 : Bool) (r2 : Int) (r3 : Int) (r4 : Int) (r5 : Bool) (r6 : Int) (r7 : Int) (r8 : Int) (r9 : Bool) (w : World) (h : impl_Halves.f a0_0 a0_1 a0_2 a0_3 = some (r1, r2, r3, r4, r5, r6, r7, r8, r9)) :
  Calls Try.prog 35 #[.agg #[.bool a0_0, .int .i64 a0_1, .int .i64 a0_2, .int .i64 a0_3]] w fun e w' => e = .returned (.tuple #[.agg #[.bool r1, .int .i64 r2, .int .i64 r3, .int .i64 r4], .agg #[.bool r5, .int .i64 r6, .int .i64 r7, .int .i64 r8], .bool r9]) ∧ Below w.heap.size w w' := by
 have hu31 := Try.underlying31
 have hu29 := Try.underlying29
 have HB := Aside0.mk (Below.refl w.heap.size w)
 have H : ((impl_PrefixOk.f a0_0 a0_1 a0_2 a0_3).bind fun t243 => (if t243 = true then ((impl_width.f a0_0 a0_1 a0_2).bind fun t244 => (if a0_3 = t244 then (some (false, 0, 0, 0, false, 0, 0, 0, false)) else ((impl_flipped.f a0_0 a0_1 a0_2 (wrap64 (a0_3 + 1))).bind fun bt245 => (some (a0_0, a0_1, a0_2, wrap64 (a0_3 + 1), bt245.1, bt245.2.1, bt245.2.2, wrap64 (a0_3 + 1), true))))) else (some (false, 0, 0, 0, false, 0, 0, 0, false)))) = some (r1, r2, r3, r4, r5, r6, r7, r8, r9) := h
 clear h
 replace H := Option.bind_eq_some_iff.mp H
 obtain ⟨t243, A20, H⟩ := H
 replace H : (if t243 = true then ((impl_width.f a0_0 a0_1 a0_2).bind fun t244 => (if a0_3 = t244 then (some (false, 0, 0, 0, false, 0, 0, 0, false)) else ((impl_flipped.f a0_0 a0_1 a0_2 (wrap64 (a0_3 + 1))).bind fun bt245 => (some (a0_0, a0_1, a0_2, wrap64 (a0_3 + 1), bt245.1, bt245.2.1, bt245.2.2, wrap64 (a0_3 + 1), true))))) else (some (false, 0, 0, 0, false, 0, 0, 0, false))) = some (r1, r2, r3, r4, r5, r6, r7, r8, r9) := H
 have A2 := Aside0.mk A20
 clear A20
 by_cases c3 : t243 = true
 ·subst c3
  have H1 : ((impl_width.f a0_0 a0_1 a0_2).bind fun t244 => (if a0_3 = t244 then (some (false, 0, 0, 0, false, 0, 0, 0, false)) else ((impl_flipped.f a0_0 a0_1 a0_2 (wrap64 (a0_3 + 1))).bind fun bt245 => (some (a0_0, a0_1, a0_2, wrap64 (a0_3 + 1), bt245.1, bt245.2.1, bt245.2.2, wrap64 (a0_3 + 1), true))))) = some (r1, r2, r3, r4, r5, r6, r7, r8, r9) := by rw [if_pos rfl] at H; exact H
  clear H
  have H := H1
  clear H1
  replace H := Option.bind_eq_some_iff.mp H
  obtain ⟨t244, A40, H⟩ := H
  replace H : (if a0_3 = t244 then (some (false, 0, 0, 0, false, 0, 0, 0, false)) else ((impl_flipped.f a0_0 a0_1 a0_2 (wrap64 (a0_3 + 1))).bind fun bt245 => (some (a0_0, a0_1, a0_2, wrap64 (a0_3 + 1), bt245.1, bt245.2.1, bt245.2.2, wrap64 (a0_3 + 1), true)))) = some (r1, r2, r3, r4, r5, r6, r7, r8, r9) := H
  have A4 := Aside0.mk A40
  clear A40
  by_cases c5 : a0_3 = t244
  ·rw [if_pos c5] at H
   have c5b0 : (a0_3 == t244) = true := beq_iff_eq.mpr c5
   have c5b1 : (a0_3 != t244) = false := bne_eq_false_iff_eq.mpr c5
   clear c5
   simp only [Option.some.injEq, Prod.mk.injEq] at H
   obtain ⟨rfl, rfl, rfl, rfl, rfl, rfl, rfl, rfl, rfl⟩ := H
   go_enter Try.func35, Try.ntmps35
   try go_wp2_with (first | ((with_reducible refine gate_dst (N := 1) rfl ?_); refine box_event ?hg (N := 1) ?hd (cs := #[.bool a0_0, .int .i64 a0_1, .int .i64 a0_2, .int .i64 a0_3]) (t := 31) ?hr ?_; (case hd => rfl); (case hg => rfl); (case hr => first | (go_simp; done) | (go_simp; rfl)); intro gb240 hg w6 hbox hb; have n0_ := Aside0.mk (below_step (by repeat (first | (with_reducible first | exact HB.out | apply below_alloc | apply pw_below_drewN | apply below_drew1) | exact HB.out)) hb); have n1_ := Aside0.mk (hbox); have n2_ := Aside0.mk ((by rw [hg]; exact (below_size (by repeat (first | (with_reducible first | exact HB.out | apply below_alloc | apply pw_below_drewN | apply below_drew1) | exact HB.out))) : w.heap.size ≤ gb240)); have n3_ := Aside0.mk ((by rw [hg]; exact (below_size (by repeat (first | (with_reducible first | exact HB.out | apply below_alloc | apply pw_below_drewN | apply below_drew1) | exact HB.out))) : w.heap.size ≤ gb240)); clear HB; have HB := n0_; have BK240 := n1_; have GW240 := n2_; have GE240 := n3_; clear n0_ n1_ n2_ n3_; clear hb hbox hg) | ((with_reducible refine gate_dst (N := 2) rfl ?_); refine box_event ?hg (N := 2) ?hd (cs := #[.bool false, .int .i64 0, .int .i64 0, .int .i64 0]) (t := 31) ?hr ?_; (case hd => rfl); (case hg => rfl); (case hr => first | (go_simp; done) | (go_simp; rfl)); intro gb241 hg w7 hbox hb; have n0_ := Aside0.mk (blk_below (g := gb240) (o := .cells #[.bool a0_0, .int .i64 a0_1, .int .i64 a0_2, .int .i64 a0_3] 31 (0, 0)) (by (with_reducible repeat (first | apply blk_drewN | apply blk_drew | apply blk_alloc)); exact BK240.out) hb); have n1_ := Aside0.mk (below_step (by repeat (first | (with_reducible first | exact HB.out | apply below_alloc | apply pw_below_drewN | apply below_drew1 | refine below_set ?_ GE240.out) | exact HB.out)) hb); have n2_ := Aside0.mk (hbox); have n3_ := Aside0.mk ((by rw [hg]; exact (below_size (by repeat (first | (with_reducible first | exact HB.out | apply below_alloc | apply pw_below_drewN | apply below_drew1 | refine below_set ?_ GE240.out) | exact HB.out))) : w.heap.size ≤ gb241)); have n4_ := Aside0.mk ((by rw [hg]; exact (below_size (by repeat (first | (with_reducible first | exact HB.out | apply below_alloc | apply pw_below_drewN | apply below_drew1 | refine below_set ?_ GE240.out) | exact HB.out))) : w.heap.size ≤ gb241)); have n5_ := Aside0.mk ((by rw [hg]; exact Nat.ne_of_lt (blk_lt (g := gb240) (o := .cells #[.bool a0_0, .int .i64 a0_1, .int .i64 a0_2, .int .i64 a0_3] 31 (0, 0)) (by (with_reducible repeat (first | apply blk_drewN | apply blk_drew | apply blk_alloc)); exact BK240.out)) : gb240 ≠ gb241)); have n6_ := Aside0.mk ((by rw [hg]; exact Nat.ne_of_gt (blk_lt (g := gb240) (o := .cells #[.bool a0_0, .int .i64 a0_1, .int .i64 a0_2, .int .i64 a0_3] 31 (0, 0)) (by (with_reducible repeat (first | apply blk_drewN | apply blk_drew | apply blk_alloc)); exact BK240.out)) : gb241 ≠ gb240)); clear BK240; clear HB; have BK240 := n0_; have HB := n1_; have BK241 := n2_; have GW241 := n3_; have GE241 := n4_; have NB240_241 := n5_; have NB241_240 := n6_; clear n0_ n1_ n2_ n3_ n4_ n5_ n6_; clear hb hbox hg) | ((with_reducible refine gate_dst (N := 3) rfl ?_); refine box_event ?hg (N := 3) ?hd (cs := #[.bool false, .int .i64 0, .int .i64 0, .int .i64 0]) (t := 31) ?hr ?_; (case hd => rfl); (case hg => rfl); (case hr => first | (go_simp; done) | (go_simp; rfl)); intro gb242 hg w8 hbox hb; have n0_ := Aside0.mk (blk_below (g := gb240) (o := .cells #[.bool a0_0, .int .i64 a0_1, .int .i64 a0_2, .int .i64 a0_3] 31 (0, 0)) (by (with_reducible repeat (first | apply blk_drewN | apply blk_drew | apply blk_alloc)); exact BK240.out) hb); have n1_ := Aside0.mk (blk_below (g := gb241) (o := .cells #[.bool false, .int .i64 0, .int .i64 0, .int .i64 0] 31 (0, 0)) (by (with_reducible repeat (first | apply blk_drewN | apply blk_drew | apply blk_alloc)); exact BK241.out) hb); have n2_ := Aside0.mk (below_step (by repeat (first | (with_reducible first | exact HB.out | apply below_alloc | apply pw_below_drewN | apply below_drew1 | refine below_set ?_ GE240.out | refine below_set ?_ GE241.out) | exact HB.out)) hb); have n3_ := Aside0.mk (hbox); have n4_ := Aside0.mk ((by rw [hg]; exact (below_size (by repeat (first | (with_reducible first | exact HB.out | apply below_alloc | apply pw_below_drewN | apply below_drew1 | refine below_set ?_ GE240.out | refine below_set ?_ GE241.out) | exact HB.out))) : w.heap.size ≤ gb242)); have n5_ := Aside0.mk ((by rw [hg]; exact (below_size (by repeat (first | (with_reducible first | exact HB.out | apply below_alloc | apply pw_below_drewN | apply below_drew1 | refine below_set ?_ GE240.out | refine below_set ?_ GE241.out) | exact HB.out))) : w.heap.size ≤ gb242)); have n6_ := Aside0.mk ((by rw [hg]; exact Nat.ne_of_lt (blk_lt (g := gb240) (o := .cells #[.bool a0_0, .int .i64 a0_1, .int .i64 a0_2, .int .i64 a0_3] 31 (0, 0)) (by (with_reducible repeat (first | apply blk_drewN | apply blk_drew | apply blk_alloc)); exact BK240.out)) : gb240 ≠ gb242)); have n7_ := Aside0.mk ((by rw [hg]; exact Nat.ne_of_gt (blk_lt (g := gb240) (o := .cells #[.bool a0_0, .int .i64 a0_1, .int .i64 a0_2, .int .i64 a0_3] 31 (0, 0)) (by (with_reducible repeat (first | apply blk_drewN | apply blk_drew | apply blk_alloc)); exact BK240.out)) : gb242 ≠ gb240)); have n8_ := Aside0.mk ((by rw [hg]; exact Nat.ne_of_lt (blk_lt (g := gb241) (o := .cells #[.bool false, .int .i64 0, .int .i64 0, .int .i64 0] 31 (0, 0)) (by (with_reducible repeat (first | apply blk_drewN | apply blk_drew | apply blk_alloc)); exact BK241.out)) : gb241 ≠ gb242)); have n9_ := Aside0.mk ((by rw [hg]; exact Nat.ne_of_gt (blk_lt (g := gb241) (o := .cells #[.bool false, .int .i64 0, .int .i64 0, .int .i64 0] 31 (0, 0)) (by (with_reducible repeat (first | apply blk_drewN | apply blk_drew | apply blk_alloc)); exact BK241.out)) : gb242 ≠ gb241)); clear BK240; clear BK241; clear HB; have BK240 := n0_; have BK241 := n1_; have HB := n2_; have BK242 := n3_; have GW242 := n4_; have GE242 := n5_; have NB240_242 := n6_; have NB242_240 := n7_; have NB241_242 := n8_; have NB242_241 := n9_; clear n0_ n1_ n2_ n3_ n4_ n5_ n6_ n7_ n8_ n9_; clear hb hbox hg))
   have n0_ := Aside0.mk (blk_drew BK240.out)
   have n1_ := Aside0.mk (blk_drew BK241.out)
   have n2_ := Aside0.mk (blk_drew BK242.out)
   have n3_ := Aside0.mk (below_drew1 HB.out)
   clear BK240
   clear BK241
   clear BK242
   clear HB
   have BK240 := n0_
   have BK241 := n1_
   have BK242 := n2_
   have HB := n3_
   clear n0_ n1_ n2_ n3_
   refine start_ (n := 11) (S := fun w' => w'.cell? ⟨gb240, 0, none⟩ = some (.bool a0_0) ∧ w'.cell? ⟨gb240, 1, none⟩ = some (.int .i64 a0_1) ∧ w'.cell? ⟨gb240, 2, none⟩ = some (.int .i64 a0_2) ∧ w'.cell? ⟨gb240, 3, none⟩ = some (.int .i64 a0_3)) (ds := []) #[false, false, false, false, false, false, false, false, false, false, false] (by kernel_rfl) rfl rfl ⟨(blk_cell BK240.out 0).trans rfl, (blk_cell BK240.out 1).trans rfl, (blk_cell BK240.out 2).trans rfl, (blk_cell BK240.out 3).trans rfl⟩ (fun hHeld => ?_); refine with_tabW impl_Halves.tab1 impl_Halves.bits1 (fun HT_ HW_ => ?_)
   generalize w8.drew = w9 at BK240 BK241 BK242 HB hHeld ⊢
   refine take_ (i := 0) (N := some 5) (v := ?_) (a' := ?_) #[true, false, false, false, false, false, false, false, false, false, false] rfl rfl (take_ofW HT_.out HW_.out (by kernel_rfl)) (fun _ _ _ h => h) (Or.inl ⟨by rfl, ?_⟩) hHeld ?_ ?_
   rotate_left
   ·rintro w' ⟨s0, s1, s2, s3⟩
    go_simp
    with_reducible rfl
   rotate_left
   ·simp only [put, setIfInBounds_toArray, set_cons_zero, set_cons_succ, i64_w, i32_w]
    rfl
   refine one_ (i := 1) (N := some 6) #[true, true, false, false, false, false, false, false, false, false, false] rfl rfl (one_of HT_.out (by kernel_rfl)) (by decide) (fun K hK => ?_)
   refine goes_ Try.func38 (by kernel_rfl) rfl #[.agg #[.bool a0_0, .int .i64 a0_1, .int .i64 a0_2, .int .i64 a0_3]] (by rfl) rfl rfl (by (try simp only [List.map_toArray, List.map_cons, List.map_nil]); first | done | rfl | (simp only [List.length_drop, List.length_take]; rfl)) ?_
   with_reducible refine (impl_PrefixOk.calls a0_0 a0_1 a0_2 a0_3 true _ A2.out).mono ?_
   rintro e w10 ⟨rfl, hb⟩
   refine ⟨_, rfl, ?_⟩
   have n0_ := Aside0.mk (blk_below (g := gb240) (o := .cells #[.bool a0_0, .int .i64 a0_1, .int .i64 a0_2, .int .i64 a0_3] 31 (0, 0)) (by (with_reducible repeat (first | apply blk_drewN | apply blk_drew | apply blk_alloc)); exact BK240.out) hb)
   have n1_ := Aside0.mk (blk_below (g := gb241) (o := .cells #[.bool false, .int .i64 0, .int .i64 0, .int .i64 0] 31 (0, 0)) (by (with_reducible repeat (first | apply blk_drewN | apply blk_drew | apply blk_alloc)); exact BK241.out) hb)
   have n2_ := Aside0.mk (blk_below (g := gb242) (o := .cells #[.bool false, .int .i64 0, .int .i64 0, .int .i64 0] 31 (0, 0)) (by (with_reducible repeat (first | apply blk_drewN | apply blk_drew | apply blk_alloc)); exact BK242.out) hb)
   have n3_ := Aside0.mk (below_step (by repeat (first | (with_reducible first | exact HB.out | apply below_alloc | apply pw_below_drewN | apply below_drew1 | refine below_set ?_ GE240.out | refine below_set ?_ GE241.out | refine below_set ?_ GE242.out) | exact HB.out)) hb)
   clear BK240
   clear BK241
   clear BK242
   clear HB
   have BK240 := n0_
   have BK241 := n1_
   have BK242 := n2_
   have HB := n3_
   clear n0_ n1_ n2_ n3_
   (try clear hb)
   (try clear hb2)
   (try clear hk)
   (try clear hi)
   refine hK.out _ _ ⟨(blk_cell BK240.out 0).trans rfl, (blk_cell BK240.out 1).trans rfl, (blk_cell BK240.out 2).trans rfl, (blk_cell BK240.out 3).trans rfl⟩ (fun hHeld => ?_)
   clear hK K
   refine norm_ (a' := ?_) ?_ ?_
   rotate_left
   ·show Act.put _ (some 6) _ = _
    simp only [put, setIfInBounds_toArray, set_cons_zero, set_cons_succ, i64_w, i32_w]
    rfl
   refine pure_ (i := 2) (N := some 7) (v := ?_) (a' := ?_) #[true, true, true, false, false, false, false, false, false, false, false] rfl rfl (any_of HT_.out (by kernel_rfl)) (fun _ _ _ h => h) (Or.inl ⟨by rfl, ?_⟩) ?_ ?_
   rotate_left
   ·intro w'
    go_simp
    with_reducible rfl
   rotate_left
   ·simp only [put, setIfInBounds_toArray, set_cons_zero, set_cons_succ, i64_w, i32_w]
    rfl
   refine pure_ (i := 3) (N := some 8) (v := ?_) (a' := ?_) #[true, true, true, true, false, false, false, false, false, false, false] rfl rfl (any_of HT_.out (by kernel_rfl)) (fun _ _ _ h => h) (Or.inl ⟨by rfl, ?_⟩) ?_ ?_
   rotate_left
   ·intro w'
    go_simp
    with_reducible rfl
   rotate_left
   ·simp only [put, setIfInBounds_toArray, set_cons_zero, set_cons_succ, i64_w, i32_w]
    rfl
   refine pure_ (i := 4) (N := some 9) (v := ?_) (a' := ?_) #[true, true, true, true, true, false, false, false, false, false, false] rfl rfl (any_of HT_.out (by kernel_rfl)) (fun _ _ _ h => h) (Or.inl ⟨by rfl, ?_⟩) ?_ ?_
   rotate_left
   ·intro w'
    go_simp
    with_reducible rfl
   rotate_left
   ·simp only [put, setIfInBounds_toArray, set_cons_zero, set_cons_succ, i64_w, i32_w]
    rfl
   refine pure_ (i := 6) (N := some 11) (v := ?_) (a' := ?_) #[true, true, true, true, true, false, true, false, false, false, false] rfl rfl (any_of HT_.out (by kernel_rfl)) (fun _ _ _ h => h) (Or.inl ⟨by rfl, ?_⟩) ?_ ?_
   rotate_left
   ·intro w'
    go_simp
    with_reducible rfl
   rotate_left
   ·simp only [put, setIfInBounds_toArray, set_cons_zero, set_cons_succ, i64_w, i32_w]
    rfl
   refine take_ (i := 5) (N := some 10) (v := ?_) (a' := ?_) #[true, true, true, true, true, true, true, false, false, false, false] rfl rfl (take_ofW HT_.out HW_.out (by kernel_rfl)) (fun _ _ _ h => h) (Or.inl ⟨by rfl, ?_⟩) hHeld ?_ ?_
   rotate_left
   ·rintro w' ⟨s0, s1, s2, s3⟩
    go_simp
    with_reducible rfl
   rotate_left
   ·simp only [put, setIfInBounds_toArray, set_cons_zero, set_cons_succ, i64_w, i32_w]
    rfl
   refine take_ (i := 7) (N := some 12) (v := ?_) (a' := ?_) #[true, true, true, true, true, true, true, true, false, false, false] rfl rfl (take_ofW HT_.out HW_.out (by kernel_rfl)) (fun _ _ _ h => h) (Or.inl ⟨by rfl, ?_⟩) hHeld ?_ ?_
   rotate_left
   ·rintro w' ⟨s0, s1, s2, s3⟩
    go_simp
    with_reducible rfl
   rotate_left
   ·simp only [put, setIfInBounds_toArray, set_cons_zero, set_cons_succ, i64_w, i32_w]
    rfl
   refine one_ (i := 8) (N := some 13) #[true, true, true, true, true, true, true, true, true, false, false] rfl rfl (one_of HT_.out (by kernel_rfl)) (by decide) (fun K hK => ?_)
   refine goes_ Try.func89 (by kernel_rfl) rfl #[.agg #[.bool a0_0, .int .i64 a0_1, .int .i64 a0_2]] (by rfl) rfl rfl (by (try simp only [List.map_toArray, List.map_cons, List.map_nil]); first | done | rfl | (simp only [List.length_drop, List.length_take]; rfl)) ?_
   with_reducible refine (impl_width.calls a0_0 a0_1 a0_2 t244 _ A4.out).mono ?_
   rintro e w11 ⟨rfl, hb⟩
   refine ⟨_, rfl, ?_⟩
   have n0_ := Aside0.mk (blk_below (g := gb240) (o := .cells #[.bool a0_0, .int .i64 a0_1, .int .i64 a0_2, .int .i64 a0_3] 31 (0, 0)) (by (with_reducible repeat (first | apply blk_drewN | apply blk_drew | apply blk_alloc)); exact BK240.out) hb)
   have n1_ := Aside0.mk (blk_below (g := gb241) (o := .cells #[.bool false, .int .i64 0, .int .i64 0, .int .i64 0] 31 (0, 0)) (by (with_reducible repeat (first | apply blk_drewN | apply blk_drew | apply blk_alloc)); exact BK241.out) hb)
   have n2_ := Aside0.mk (blk_below (g := gb242) (o := .cells #[.bool false, .int .i64 0, .int .i64 0, .int .i64 0] 31 (0, 0)) (by (with_reducible repeat (first | apply blk_drewN | apply blk_drew | apply blk_alloc)); exact BK242.out) hb)
   have n3_ := Aside0.mk (below_step (by repeat (first | (with_reducible first | exact HB.out | apply below_alloc | apply pw_below_drewN | apply below_drew1 | refine below_set ?_ GE240.out | refine below_set ?_ GE241.out | refine below_set ?_ GE242.out) | exact HB.out)) hb)
   clear BK240
   clear BK241
   clear BK242
   clear HB
   have BK240 := n0_
   have BK241 := n1_
   have BK242 := n2_
   have HB := n3_
   clear n0_ n1_ n2_ n3_
   (try clear hb)
   (try clear hb2)
   (try clear hk)
   (try clear hi)
   refine hK.out _ _ ⟨(blk_cell BK240.out 0).trans rfl, (blk_cell BK240.out 1).trans rfl, (blk_cell BK240.out 2).trans rfl, (blk_cell BK240.out 3).trans rfl⟩ (fun hHeld => ?_)
   clear hK K
   refine norm_ (a' := ?_) ?_ ?_
   rotate_left
   ·show Act.put _ (some 13) _ = _
    simp only [put, setIfInBounds_toArray, set_cons_zero, set_cons_succ, i64_w, i32_w]
    rfl
   refine pure_ (i := 9) (N := some 14) (v := ?_) (a' := ?_) #[true, true, true, true, true, true, true, true, true, true, false] rfl rfl (any_of HT_.out (by kernel_rfl)) (fun _ _ _ h => h) (Or.inl ⟨by rfl, ?_⟩) ?_ ?_
   rotate_left
   ·intro w'
    go_simp
    with_reducible rfl
   rotate_left
   ·simp only [put, setIfInBounds_toArray, set_cons_zero, set_cons_succ, i64_w, i32_w]
    rfl
   refine pure_ (i := 10) (N := some 15) (v := ?_) (a' := ?_) #[true, true, true, true, true, true, true, true, true, true, true] rfl rfl (any_of HT_.out (by kernel_rfl)) (fun _ _ _ h => h) (Or.inl ⟨by rfl, ?_⟩) ?_ ?_
   rotate_left
   ·intro w'
    go_simp
    with_reducible rfl
   rotate_left
   ·simp only [put, setIfInBounds_toArray, set_cons_zero, set_cons_succ, i64_w, i32_w]
    rfl
   refine done_ (done_of HT_.out (by kernel_rfl)) ?_
   have hnb12 := NB241_240.out
   have hnc12 := NB240_241.out
   have hnb13 := NB241_242.out
   have hnc13 := NB242_241.out
   have hcz14_0 : w11.cell? ⟨gb241, 0, none⟩ = some (.bool false) := (blk_cell BK241.out 0).trans rfl
   have hcz14_1 : w11.cell? ⟨gb241, 1, none⟩ = some (.int .i64 0) := (blk_cell BK241.out 1).trans rfl
   have hcz14_2 : w11.cell? ⟨gb241, 2, none⟩ = some (.int .i64 0) := (blk_cell BK241.out 2).trans rfl
   have hcz14_3 : w11.cell? ⟨gb241, 3, none⟩ = some (.int .i64 0) := (blk_cell BK241.out 3).trans rfl
   have hfz14_0 := blk_frozen BK241.out 0
   have hfz14_1 := blk_frozen BK241.out 1
   have hfz14_2 := blk_frozen BK241.out 2
   have hfz14_3 := blk_frozen BK241.out 3
   have hnb15 := NB242_240.out
   have hnc15 := NB240_242.out
   have hcz16_0 : w11.cell? ⟨gb242, 0, none⟩ = some (.bool false) := (blk_cell BK242.out 0).trans rfl
   have hcz16_1 : w11.cell? ⟨gb242, 1, none⟩ = some (.int .i64 0) := (blk_cell BK242.out 1).trans rfl
   have hcz16_2 : w11.cell? ⟨gb242, 2, none⟩ = some (.int .i64 0) := (blk_cell BK242.out 2).trans rfl
   have hcz16_3 : w11.cell? ⟨gb242, 3, none⟩ = some (.int .i64 0) := (blk_cell BK242.out 3).trans rfl
   have hfz16_0 := blk_frozen BK242.out 0
   have hfz16_1 := blk_frozen BK242.out 1
   have hfz16_2 := blk_frozen BK242.out 2
   have hfz16_3 := blk_frozen BK242.out 3
   try go_wp2
   refine bodyPost_ret (results_list (rs := [.cell 2 31, .cell 3 31, .tmp 4]) rfl (by simp) (.cell gb241 31 #[.bool false, .int .i64 0, .int .i64 0, .int .i64 0] (0, 0) _ rfl (by (with_reducible repeat (first | apply blk_drewN | apply blk_drew | apply blk_alloc)); refine blk_far ?_ NB241_242.out _; (with_reducible repeat (first | apply blk_drewN | apply blk_drew | apply blk_alloc)); refine blk_far ?_ NB241_242.out _; (with_reducible repeat (first | apply blk_drewN | apply blk_drew | apply blk_alloc)); refine blk_far ?_ NB241_242.out _; (with_reducible repeat (first | apply blk_drewN | apply blk_drew | apply blk_alloc)); refine blk_far ?_ NB241_242.out _; (with_reducible repeat (first | apply blk_drewN | apply blk_drew | apply blk_alloc)); refine blk_put (cs := #[.bool false, .int .i64 0, .int .i64 0, .int .i64 0]) ?_ 3 _ rfl; (with_reducible repeat (first | apply blk_drewN | apply blk_drew | apply blk_alloc)); refine blk_put (cs := #[.bool false, .int .i64 0, .int .i64 0, .int .i64 0]) ?_ 2 _ rfl; (with_reducible repeat (first | apply blk_drewN | apply blk_drew | apply blk_alloc)); refine blk_put (cs := #[.bool false, .int .i64 0, .int .i64 0, .int .i64 0]) ?_ 1 _ rfl; (with_reducible repeat (first | apply blk_drewN | apply blk_drew | apply blk_alloc)); refine blk_put (cs := #[.bool false, .int .i64 0, .int .i64 0, .int .i64 0]) ?_ 0 _ rfl; (with_reducible repeat (first | apply blk_drewN | apply blk_drew | apply blk_alloc)); exact BK241.out) Try.underlying31 rfl (by kernel_rfl) (.cell gb242 31 #[.bool false, .int .i64 0, .int .i64 0, .int .i64 0] (0, 0) _ rfl (by (with_reducible repeat (first | apply blk_drewN | apply blk_drew | apply blk_alloc)); refine blk_put (cs := #[.bool false, .int .i64 0, .int .i64 0, .int .i64 0]) ?_ 3 _ rfl; (with_reducible repeat (first | apply blk_drewN | apply blk_drew | apply blk_alloc)); refine blk_put (cs := #[.bool false, .int .i64 0, .int .i64 0, .int .i64 0]) ?_ 2 _ rfl; (with_reducible repeat (first | apply blk_drewN | apply blk_drew | apply blk_alloc)); refine blk_put (cs := #[.bool false, .int .i64 0, .int .i64 0, .int .i64 0]) ?_ 1 _ rfl; (with_reducible repeat (first | apply blk_drewN | apply blk_drew | apply blk_alloc)); refine blk_put (cs := #[.bool false, .int .i64 0, .int .i64 0, .int .i64 0]) ?_ 0 _ rfl; (with_reducible repeat (first | apply blk_drewN | apply blk_drew | apply blk_alloc)); refine blk_far ?_ NB242_241.out _; (with_reducible repeat (first | apply blk_drewN | apply blk_drew | apply blk_alloc)); refine blk_far ?_ NB242_241.out _; (with_reducible repeat (first | apply blk_drewN | apply blk_drew | apply blk_alloc)); refine blk_far ?_ NB242_241.out _; (with_reducible repeat (first | apply blk_drewN | apply blk_drew | apply blk_alloc)); refine blk_far ?_ NB242_241.out _; (with_reducible repeat (first | apply blk_drewN | apply blk_drew | apply blk_alloc)); exact BK242.out) Try.underlying31 rfl (by kernel_rfl) (.tmp .nil)))) rfl ?_
   exact ⟨by first | rfl | (simp [errW_none, errW_some] <;> rfl) | (simp [*, errW_none, errW_some] <;> rfl), by repeat (first | (with_reducible first | exact HB.out | apply below_alloc | apply pw_below_drewN | apply below_drew1 | refine below_set ?_ GE240.out | refine below_set ?_ GE241.out | refine below_set ?_ GE242.out) | exact HB.out)⟩
  ·rw [if_neg c5] at H
   have c5b0 : (a0_3 == t244) = false := beq_eq_false_iff_ne.mpr c5
   have c5b1 : (a0_3 != t244) = true := bne_iff_ne.mpr c5
   replace H := Option.bind_eq_some_iff.mp H
   obtain ⟨⟨t245, t246, t247⟩, A170, H⟩ := H
   replace H : (some (a0_0, a0_1, a0_2, wrap64 (a0_3 + 1), t245, t246, t247, wrap64 (a0_3 + 1), true)) = some (r1, r2, r3, r4, r5, r6, r7, r8, r9) := H
   have A17 := Aside0.mk A170
   clear A170
   simp only [Option.some.injEq, Prod.mk.injEq] at H
   obtain ⟨rfl, rfl, rfl, rfl, rfl, rfl, rfl, rfl, rfl⟩ := H
   go_enter Try.func35, Try.ntmps35
   try go_wp2_with (first | ((with_reducible refine gate_dst (N := 1) rfl ?_); refine box_event ?hg (N := 1) ?hd (cs := #[.bool a0_0, .int .i64 a0_1, .int .i64 a0_2, .int .i64 a0_3]) (t := 31) ?hr ?_; (case hd => rfl); (case hg => rfl); (case hr => first | (go_simp; done) | (go_simp; rfl)); intro gb240 hg w18 hbox hb; have n0_ := Aside0.mk (below_step (by repeat (first | (with_reducible first | exact HB.out | apply below_alloc | apply pw_below_drewN | apply below_drew1) | exact HB.out)) hb); have n1_ := Aside0.mk (hbox); have n2_ := Aside0.mk ((by rw [hg]; exact (below_size (by repeat (first | (with_reducible first | exact HB.out | apply below_alloc | apply pw_below_drewN | apply below_drew1) | exact HB.out))) : w.heap.size ≤ gb240)); have n3_ := Aside0.mk ((by rw [hg]; exact (below_size (by repeat (first | (with_reducible first | exact HB.out | apply below_alloc | apply pw_below_drewN | apply below_drew1) | exact HB.out))) : w.heap.size ≤ gb240)); clear HB; have HB := n0_; have BK240 := n1_; have GW240 := n2_; have GE240 := n3_; clear n0_ n1_ n2_ n3_; clear hb hbox hg) | ((with_reducible refine gate_dst (N := 2) rfl ?_); refine box_event ?hg (N := 2) ?hd (cs := #[.bool false, .int .i64 0, .int .i64 0, .int .i64 0]) (t := 31) ?hr ?_; (case hd => rfl); (case hg => rfl); (case hr => first | (go_simp; done) | (go_simp; rfl)); intro gb241 hg w19 hbox hb; have n0_ := Aside0.mk (blk_below (g := gb240) (o := .cells #[.bool a0_0, .int .i64 a0_1, .int .i64 a0_2, .int .i64 a0_3] 31 (0, 0)) (by (with_reducible repeat (first | apply blk_drewN | apply blk_drew | apply blk_alloc)); exact BK240.out) hb); have n1_ := Aside0.mk (below_step (by repeat (first | (with_reducible first | exact HB.out | apply below_alloc | apply pw_below_drewN | apply below_drew1 | refine below_set ?_ GE240.out) | exact HB.out)) hb); have n2_ := Aside0.mk (hbox); have n3_ := Aside0.mk ((by rw [hg]; exact (below_size (by repeat (first | (with_reducible first | exact HB.out | apply below_alloc | apply pw_below_drewN | apply below_drew1 | refine below_set ?_ GE240.out) | exact HB.out))) : w.heap.size ≤ gb241)); have n4_ := Aside0.mk ((by rw [hg]; exact (below_size (by repeat (first | (with_reducible first | exact HB.out | apply below_alloc | apply pw_below_drewN | apply below_drew1 | refine below_set ?_ GE240.out) | exact HB.out))) : w.heap.size ≤ gb241)); have n5_ := Aside0.mk ((by rw [hg]; exact Nat.ne_of_lt (blk_lt (g := gb240) (o := .cells #[.bool a0_0, .int .i64 a0_1, .int .i64 a0_2, .int .i64 a0_3] 31 (0, 0)) (by (with_reducible repeat (first | apply blk_drewN | apply blk_drew | apply blk_alloc)); exact BK240.out)) : gb240 ≠ gb241)); have n6_ := Aside0.mk ((by rw [hg]; exact Nat.ne_of_gt (blk_lt (g := gb240) (o := .cells #[.bool a0_0, .int .i64 a0_1, .int .i64 a0_2, .int .i64 a0_3] 31 (0, 0)) (by (with_reducible repeat (first | apply blk_drewN | apply blk_drew | apply blk_alloc)); exact BK240.out)) : gb241 ≠ gb240)); clear BK240; clear HB; have BK240 := n0_; have HB := n1_; have BK241 := n2_; have GW241 := n3_; have GE241 := n4_; have NB240_241 := n5_; have NB241_240 := n6_; clear n0_ n1_ n2_ n3_ n4_ n5_ n6_; clear hb hbox hg) | ((with_reducible refine gate_dst (N := 3) rfl ?_); refine box_event ?hg (N := 3) ?hd (cs := #[.bool false, .int .i64 0, .int .i64 0, .int .i64 0]) (t := 31) ?hr ?_; (case hd => rfl); (case hg => rfl); (case hr => first | (go_simp; done) | (go_simp; rfl)); intro gb242 hg w20 hbox hb; have n0_ := Aside0.mk (blk_below (g := gb240) (o := .cells #[.bool a0_0, .int .i64 a0_1, .int .i64 a0_2, .int .i64 a0_3] 31 (0, 0)) (by (with_reducible repeat (first | apply blk_drewN | apply blk_drew | apply blk_alloc)); exact BK240.out) hb); have n1_ := Aside0.mk (blk_below (g := gb241) (o := .cells #[.bool false, .int .i64 0, .int .i64 0, .int .i64 0] 31 (0, 0)) (by (with_reducible repeat (first | apply blk_drewN | apply blk_drew | apply blk_alloc)); exact BK241.out) hb); have n2_ := Aside0.mk (below_step (by repeat (first | (with_reducible first | exact HB.out | apply below_alloc | apply pw_below_drewN | apply below_drew1 | refine below_set ?_ GE240.out | refine below_set ?_ GE241.out) | exact HB.out)) hb); have n3_ := Aside0.mk (hbox); have n4_ := Aside0.mk ((by rw [hg]; exact (below_size (by repeat (first | (with_reducible first | exact HB.out | apply below_alloc | apply pw_below_drewN | apply below_drew1 | refine below_set ?_ GE240.out | refine below_set ?_ GE241.out) | exact HB.out))) : w.heap.size ≤ gb242)); have n5_ := Aside0.mk ((by rw [hg]; exact (below_size (by repeat (first | (with_reducible first | exact HB.out | apply below_alloc | apply pw_below_drewN | apply below_drew1 | refine below_set ?_ GE240.out | refine below_set ?_ GE241.out) | exact HB.out))) : w.heap.size ≤ gb242)); have n6_ := Aside0.mk ((by rw [hg]; exact Nat.ne_of_lt (blk_lt (g := gb240) (o := .cells #[.bool a0_0, .int .i64 a0_1, .int .i64 a0_2, .int .i64 a0_3] 31 (0, 0)) (by (with_reducible repeat (first | apply blk_drewN | apply blk_drew | apply blk_alloc)); exact BK240.out)) : gb240 ≠ gb242)); have n7_ := Aside0.mk ((by rw [hg]; exact Nat.ne_of_gt (blk_lt (g := gb240) (o := .cells #[.bool a0_0, .int .i64 a0_1, .int .i64 a0_2, .int .i64 a0_3] 31 (0, 0)) (by (with_reducible repeat (first | apply blk_drewN | apply blk_drew | apply blk_alloc)); exact BK240.out)) : gb242 ≠ gb240)); have n8_ := Aside0.mk ((by rw [hg]; exact Nat.ne_of_lt (blk_lt (g := gb241) (o := .cells #[.bool false, .int .i64 0, .int .i64 0, .int .i64 0] 31 (0, 0)) (by (with_reducible repeat (first | apply blk_drewN | apply blk_drew | apply blk_alloc)); exact BK241.out)) : gb241 ≠ gb242)); have n9_ := Aside0.mk ((by rw [hg]; exact Nat.ne_of_gt (blk_lt (g := gb241) (o := .cells #[.bool false, .int .i64 0, .int .i64 0, .int .i64 0] 31 (0, 0)) (by (with_reducible repeat (first | apply blk_drewN | apply blk_drew | apply blk_alloc)); exact BK241.out)) : gb242 ≠ gb241)); clear BK240; clear BK241; clear HB; have BK240 := n0_; have BK241 := n1_; have HB := n2_; have BK242 := n3_; have GW242 := n4_; have GE242 := n5_; have NB240_242 := n6_; have NB242_240 := n7_; have NB241_242 := n8_; have NB242_241 := n9_; clear n0_ n1_ n2_ n3_ n4_ n5_ n6_ n7_ n8_ n9_; clear hb hbox hg))
   have n0_ := Aside0.mk (blk_drew BK240.out)
   have n1_ := Aside0.mk (blk_drew BK241.out)
   have n2_ := Aside0.mk (blk_drew BK242.out)
   have n3_ := Aside0.mk (below_drew1 HB.out)
   clear BK240
   clear BK241
   clear BK242
   clear HB
   have BK240 := n0_
   have BK241 := n1_
   have BK242 := n2_
   have HB := n3_
   clear n0_ n1_ n2_ n3_
   refine start_ (n := 11) (S := fun w' => w'.cell? ⟨gb240, 0, none⟩ = some (.bool a0_0) ∧ w'.cell? ⟨gb240, 1, none⟩ = some (.int .i64 a0_1) ∧ w'.cell? ⟨gb240, 2, none⟩ = some (.int .i64 a0_2) ∧ w'.cell? ⟨gb240, 3, none⟩ = some (.int .i64 a0_3)) (ds := []) #[false, false, false, false, false, false, false, false, false, false, false] (by kernel_rfl) rfl rfl ⟨(blk_cell BK240.out 0).trans rfl, (blk_cell BK240.out 1).trans rfl, (blk_cell BK240.out 2).trans rfl, (blk_cell BK240.out 3).trans rfl⟩ (fun hHeld => ?_); refine with_tabW impl_Halves.tab1 impl_Halves.bits1 (fun HT_ HW_ => ?_)
   generalize w20.drew = w21 at BK240 BK241 BK242 HB hHeld ⊢
   refine take_ (i := 0) (N := some 5) (v := ?_) (a' := ?_) #[true, false, false, false, false, false, false, false, false, false, false] rfl rfl (take_ofW HT_.out HW_.out (by kernel_rfl)) (fun _ _ _ h => h) (Or.inl ⟨by rfl, ?_⟩) hHeld ?_ ?_
   rotate_left
   ·rintro w' ⟨s0, s1, s2, s3⟩
    go_simp
    with_reducible rfl
   rotate_left
   ·simp only [put, setIfInBounds_toArray, set_cons_zero, set_cons_succ, i64_w, i32_w]
    rfl
   refine one_ (i := 1) (N := some 6) #[true, true, false, false, false, false, false, false, false, false, false] rfl rfl (one_of HT_.out (by kernel_rfl)) (by decide) (fun K hK => ?_)
   refine goes_ Try.func38 (by kernel_rfl) rfl #[.agg #[.bool a0_0, .int .i64 a0_1, .int .i64 a0_2, .int .i64 a0_3]] (by rfl) rfl rfl (by (try simp only [List.map_toArray, List.map_cons, List.map_nil]); first | done | rfl | (simp only [List.length_drop, List.length_take]; rfl)) ?_
   with_reducible refine (impl_PrefixOk.calls a0_0 a0_1 a0_2 a0_3 true _ A2.out).mono ?_
   rintro e w22 ⟨rfl, hb⟩
   refine ⟨_, rfl, ?_⟩
   have n0_ := Aside0.mk (blk_below (g := gb240) (o := .cells #[.bool a0_0, .int .i64 a0_1, .int .i64 a0_2, .int .i64 a0_3] 31 (0, 0)) (by (with_reducible repeat (first | apply blk_drewN | apply blk_drew | apply blk_alloc)); exact BK240.out) hb)
   have n1_ := Aside0.mk (blk_below (g := gb241) (o := .cells #[.bool false, .int .i64 0, .int .i64 0, .int .i64 0] 31 (0, 0)) (by (with_reducible repeat (first | apply blk_drewN | apply blk_drew | apply blk_alloc)); exact BK241.out) hb)
   have n2_ := Aside0.mk (blk_below (g := gb242) (o := .cells #[.bool false, .int .i64 0, .int .i64 0, .int .i64 0] 31 (0, 0)) (by (with_reducible repeat (first | apply blk_drewN | apply blk_drew | apply blk_alloc)); exact BK242.out) hb)
   have n3_ := Aside0.mk (below_step (by repeat (first | (with_reducible first | exact HB.out | apply below_alloc | apply pw_below_drewN | apply below_drew1 | refine below_set ?_ GE240.out | refine below_set ?_ GE241.out | refine below_set ?_ GE242.out) | exact HB.out)) hb)
   clear BK240
   clear BK241
   clear BK242
   clear HB
   have BK240 := n0_
   have BK241 := n1_
   have BK242 := n2_
   have HB := n3_
   clear n0_ n1_ n2_ n3_
   (try clear hb)
   (try clear hb2)
   (try clear hk)
   (try clear hi)
   refine hK.out _ _ ⟨(blk_cell BK240.out 0).trans rfl, (blk_cell BK240.out 1).trans rfl, (blk_cell BK240.out 2).trans rfl, (blk_cell BK240.out 3).trans rfl⟩ (fun hHeld => ?_)
   clear hK K
   refine norm_ (a' := ?_) ?_ ?_
   rotate_left
   ·show Act.put _ (some 6) _ = _
    simp only [put, setIfInBounds_toArray, set_cons_zero, set_cons_succ, i64_w, i32_w]
    rfl
   refine pure_ (i := 2) (N := some 7) (v := ?_) (a' := ?_) #[true, true, true, false, false, false, false, false, false, false, false] rfl rfl (any_of HT_.out (by kernel_rfl)) (fun _ _ _ h => h) (Or.inl ⟨by rfl, ?_⟩) ?_ ?_
   rotate_left
   ·intro w'
    go_simp
    with_reducible rfl
   rotate_left
   ·simp only [put, setIfInBounds_toArray, set_cons_zero, set_cons_succ, i64_w, i32_w]
    rfl
   refine pure_ (i := 3) (N := some 8) (v := ?_) (a' := ?_) #[true, true, true, true, false, false, false, false, false, false, false] rfl rfl (any_of HT_.out (by kernel_rfl)) (fun _ _ _ h => h) (Or.inl ⟨by rfl, ?_⟩) ?_ ?_
   rotate_left
   ·intro w'
    go_simp
    with_reducible rfl
   rotate_left
   ·simp only [put, setIfInBounds_toArray, set_cons_zero, set_cons_succ, i64_w, i32_w]
    rfl
   refine pure_ (i := 4) (N := some 9) (v := ?_) (a' := ?_) #[true, true, true, true, true, false, false, false, false, false, false] rfl rfl (any_of HT_.out (by kernel_rfl)) (fun _ _ _ h => h) (Or.inl ⟨by rfl, ?_⟩) ?_ ?_
   rotate_left
   ·intro w'
    go_simp
    with_reducible rfl
   rotate_left
   ·simp only [put, setIfInBounds_toArray, set_cons_zero, set_cons_succ, i64_w, i32_w]
    rfl
   refine pure_ (i := 6) (N := some 11) (v := ?_) (a' := ?_) #[true, true, true, true, true, false, true, false, false, false, false] rfl rfl (any_of HT_.out (by kernel_rfl)) (fun _ _ _ h => h) (Or.inl ⟨by rfl, ?_⟩) ?_ ?_
   rotate_left
   ·intro w'
    go_simp
    with_reducible rfl
   rotate_left
   ·simp only [put, setIfInBounds_toArray, set_cons_zero, set_cons_succ, i64_w, i32_w]
    rfl
   refine take_ (i := 5) (N := some 10) (v := ?_) (a' := ?_) #[true, true, true, true, true, true, true, false, false, false, false] rfl rfl (take_ofW HT_.out HW_.out (by kernel_rfl)) (fun _ _ _ h => h) (Or.inl ⟨by rfl, ?_⟩) hHeld ?_ ?_
   rotate_left
   ·rintro w' ⟨s0, s1, s2, s3⟩
    go_simp
    with_reducible rfl
   rotate_left
   ·simp only [put, setIfInBounds_toArray, set_cons_zero, set_cons_succ, i64_w, i32_w]
    rfl
   refine take_ (i := 7) (N := some 12) (v := ?_) (a' := ?_) #[true, true, true, true, true, true, true, true, false, false, false] rfl rfl (take_ofW HT_.out HW_.out (by kernel_rfl)) (fun _ _ _ h => h) (Or.inl ⟨by rfl, ?_⟩) hHeld ?_ ?_
   rotate_left
   ·rintro w' ⟨s0, s1, s2, s3⟩
    go_simp
    with_reducible rfl
   rotate_left
   ·simp only [put, setIfInBounds_toArray, set_cons_zero, set_cons_succ, i64_w, i32_w]
    rfl
   refine one_ (i := 8) (N := some 13) #[true, true, true, true, true, true, true, true, true, false, false] rfl rfl (one_of HT_.out (by kernel_rfl)) (by decide) (fun K hK => ?_)
   refine goes_ Try.func89 (by kernel_rfl) rfl #[.agg #[.bool a0_0, .int .i64 a0_1, .int .i64 a0_2]] (by rfl) rfl rfl (by (try simp only [List.map_toArray, List.map_cons, List.map_nil]); first | done | rfl | (simp only [List.length_drop, List.length_take]; rfl)) ?_
   with_reducible refine (impl_width.calls a0_0 a0_1 a0_2 t244 _ A4.out).mono ?_
   rintro e w23 ⟨rfl, hb⟩
   refine ⟨_, rfl, ?_⟩
   have n0_ := Aside0.mk (blk_below (g := gb240) (o := .cells #[.bool a0_0, .int .i64 a0_1, .int .i64 a0_2, .int .i64 a0_3] 31 (0, 0)) (by (with_reducible repeat (first | apply blk_drewN | apply blk_drew | apply blk_alloc)); exact BK240.out) hb)
   have n1_ := Aside0.mk (blk_below (g := gb241) (o := .cells #[.bool false, .int .i64 0, .int .i64 0, .int .i64 0] 31 (0, 0)) (by (with_reducible repeat (first | apply blk_drewN | apply blk_drew | apply blk_alloc)); exact BK241.out) hb)
   have n2_ := Aside0.mk (blk_below (g := gb242) (o := .cells #[.bool false, .int .i64 0, .int .i64 0, .int .i64 0] 31 (0, 0)) (by (with_reducible repeat (first | apply blk_drewN | apply blk_drew | apply blk_alloc)); exact BK242.out) hb)
   have n3_ := Aside0.mk (below_step (by repeat (first | (with_reducible first | exact HB.out | apply below_alloc | apply pw_below_drewN | apply below_drew1 | refine below_set ?_ GE240.out | refine below_set ?_ GE241.out | refine below_set ?_ GE242.out) | exact HB.out)) hb)
   clear BK240
   clear BK241
   clear BK242
   clear HB
   have BK240 := n0_
   have BK241 := n1_
   have BK242 := n2_
   have HB := n3_
   clear n0_ n1_ n2_ n3_
   (try clear hb)
   (try clear hb2)
   (try clear hk)
   (try clear hi)
   refine hK.out _ _ ⟨(blk_cell BK240.out 0).trans rfl, (blk_cell BK240.out 1).trans rfl, (blk_cell BK240.out 2).trans rfl, (blk_cell BK240.out 3).trans rfl⟩ (fun hHeld => ?_)
   clear hK K
   refine norm_ (a' := ?_) ?_ ?_
   rotate_left
   ·show Act.put _ (some 13) _ = _
    simp only [put, setIfInBounds_toArray, set_cons_zero, set_cons_succ, i64_w, i32_w]
    rfl
   refine pure_ (i := 9) (N := some 14) (v := ?_) (a' := ?_) #[true, true, true, true, true, true, true, true, true, true, false] rfl rfl (any_of HT_.out (by kernel_rfl)) (fun _ _ _ h => h) (Or.inl ⟨by rfl, ?_⟩) ?_ ?_
   rotate_left
   ·intro w'
    go_simp
    with_reducible rfl
   rotate_left
   ·simp only [put, setIfInBounds_toArray, set_cons_zero, set_cons_succ, i64_w, i32_w]
    rfl
   refine pure_ (i := 10) (N := some 15) (v := ?_) (a' := ?_) #[true, true, true, true, true, true, true, true, true, true, true] rfl rfl (any_of HT_.out (by kernel_rfl)) (fun _ _ _ h => h) (Or.inl ⟨by rfl, ?_⟩) ?_ ?_
   rotate_left
   ·intro w'
    go_simp
    with_reducible rfl
   rotate_left
   ·simp only [put, setIfInBounds_toArray, set_cons_zero, set_cons_succ, i64_w, i32_w]
    rfl
   refine done_ (done_of HT_.out (by kernel_rfl)) ?_
   try go_wp2
   have n0_ := Aside0.mk (blk_drew BK240.out)
   have n1_ := Aside0.mk (blk_drew BK241.out)
   have n2_ := Aside0.mk (blk_drew BK242.out)
   have n3_ := Aside0.mk (below_drew1 HB.out)
   clear BK240
   clear BK241
   clear BK242
   clear HB
   have BK240 := n0_
   have BK241 := n1_
   have BK242 := n2_
   have HB := n3_
   clear n0_ n1_ n2_ n3_
   refine start_ (n := 19) (S := fun w' => w'.cell? ⟨gb240, 0, none⟩ = some (.bool a0_0) ∧ w'.cell? ⟨gb240, 1, none⟩ = some (.int .i64 a0_1) ∧ w'.cell? ⟨gb240, 2, none⟩ = some (.int .i64 a0_2) ∧ w'.cell? ⟨gb240, 3, none⟩ = some (.int .i64 a0_3)) (ds := []) #[false, false, false, false, false, false, false, false, false, false, false, false, false, false, false, false, false, false, false] (by kernel_rfl) rfl rfl ⟨(blk_cell BK240.out 0).trans rfl, (blk_cell BK240.out 1).trans rfl, (blk_cell BK240.out 2).trans rfl, (blk_cell BK240.out 3).trans rfl⟩ (fun hHeld => ?_); refine with_tabW impl_Halves.tab3 impl_Halves.bits3 (fun HT_ HW_ => ?_)
   generalize w23.drew = w24 at BK240 BK241 BK242 HB hHeld ⊢
   refine pure_ (i := 0) (N := some 18) (v := ?_) (a' := ?_) #[true, false, false, false, false, false, false, false, false, false, false, false, false, false, false, false, false, false, false] rfl rfl (any_of HT_.out (by kernel_rfl)) (fun _ _ _ h => h) (Or.inl ⟨by rfl, ?_⟩) ?_ ?_
   rotate_left
   ·intro w'
    go_simp
    with_reducible rfl
   rotate_left
   ·simp only [put, setIfInBounds_toArray, set_cons_zero, set_cons_succ, i64_w, i32_w]
    rfl
   refine pure_ (i := 2) (N := some 20) (v := ?_) (a' := ?_) #[true, false, true, false, false, false, false, false, false, false, false, false, false, false, false, false, false, false, false] rfl rfl (any_of HT_.out (by kernel_rfl)) (fun _ _ _ h => h) (Or.inl ⟨by rfl, ?_⟩) ?_ ?_
   rotate_left
   ·intro w'
    go_simp
    with_reducible rfl
   rotate_left
   ·simp only [put, setIfInBounds_toArray, set_cons_zero, set_cons_succ, i64_w, i32_w]
    rfl
   refine pure_ (i := 6) (N := some 24) (v := ?_) (a' := ?_) #[true, false, true, false, false, false, true, false, false, false, false, false, false, false, false, false, false, false, false] rfl rfl (any_of HT_.out (by kernel_rfl)) (fun _ _ _ h => h) (Or.inl ⟨by rfl, ?_⟩) ?_ ?_
   rotate_left
   ·intro w'
    go_simp
    with_reducible rfl
   rotate_left
   ·simp only [put, setIfInBounds_toArray, set_cons_zero, set_cons_succ, i64_w, i32_w]
    rfl
   refine pure_ (i := 8) (N := some 26) (v := ?_) (a' := ?_) #[true, false, true, false, false, false, true, false, true, false, false, false, false, false, false, false, false, false, false] rfl rfl (any_of HT_.out (by kernel_rfl)) (fun _ _ _ h => h) (Or.inl ⟨by rfl, ?_⟩) ?_ ?_
   rotate_left
   ·intro w'
    go_simp
    with_reducible rfl
   rotate_left
   ·simp only [put, setIfInBounds_toArray, set_cons_zero, set_cons_succ, i64_w, i32_w]
    rfl
   refine pure_ (i := 12) (N := some 30) (v := ?_) (a' := ?_) #[true, false, true, false, false, false, true, false, true, false, false, false, true, false, false, false, false, false, false] rfl rfl (any_of HT_.out (by kernel_rfl)) (fun _ _ _ h => h) (Or.inl ⟨by rfl, ?_⟩) ?_ ?_
   rotate_left
   ·intro w'
    go_simp
    with_reducible rfl
   rotate_left
   ·simp only [put, setIfInBounds_toArray, set_cons_zero, set_cons_succ, i64_w, i32_w]
    rfl
   refine take_ (i := 1) (N := some 19) (v := ?_) (a' := ?_) #[true, true, true, false, false, false, true, false, true, false, false, false, true, false, false, false, false, false, false] rfl rfl (take_ofW HT_.out HW_.out (by kernel_rfl)) (fun _ _ _ h => h) (Or.inl ⟨by rfl, ?_⟩) hHeld ?_ ?_
   rotate_left
   ·rintro w' ⟨s0, s1, s2, s3⟩
    go_simp
    with_reducible rfl
   rotate_left
   ·simp only [put, setIfInBounds_toArray, set_cons_zero, set_cons_succ, i64_w, i32_w]
    rfl
   refine take_ (i := 3) (N := some 21) (v := ?_) (a' := ?_) #[true, true, true, true, false, false, true, false, true, false, false, false, true, false, false, false, false, false, false] rfl rfl (take_ofW HT_.out HW_.out (by kernel_rfl)) (fun _ _ _ h => h) (Or.inl ⟨by rfl, ?_⟩) hHeld ?_ ?_
   rotate_left
   ·rintro w' ⟨s0, s1, s2, s3⟩
    go_simp
    with_reducible rfl
   rotate_left
   ·simp only [put, setIfInBounds_toArray, set_cons_zero, set_cons_succ, i64_w, i32_w]
    rfl
   refine pure_ (i := 4) (N := some 22) (v := ?_) (a' := ?_) #[true, true, true, true, true, false, true, false, true, false, false, false, true, false, false, false, false, false, false] rfl rfl (any_of HT_.out (by kernel_rfl)) (fun _ _ _ h => h) (Or.inl ⟨by rfl, ?_⟩) ?_ ?_
   rotate_left
   ·intro w'
    go_simp
    with_reducible rfl
   rotate_left
   ·simp only [put, setIfInBounds_toArray, set_cons_zero, set_cons_succ, i64_w, i32_w]
    rfl
   refine pure_ (i := 5) (N := some 23) (v := ?_) (a' := ?_) #[true, true, true, true, true, true, true, false, true, false, false, false, true, false, false, false, false, false, false] rfl rfl (any_of HT_.out (by kernel_rfl)) (fun _ _ _ h => h) (Or.inl ⟨by rfl, ?_⟩) ?_ ?_
   rotate_left
   ·intro w'
    go_simp
    with_reducible rfl
   rotate_left
   ·simp only [put, setIfInBounds_toArray, set_cons_zero, set_cons_succ, i64_w, i32_w]
    rfl
   refine take_ (i := 7) (N := some 25) (v := ?_) (a' := ?_) #[true, true, true, true, true, true, true, true, true, false, false, false, true, false, false, false, false, false, false] rfl rfl (take_ofW HT_.out HW_.out (by kernel_rfl)) (fun _ _ _ h => h) (Or.inl ⟨by rfl, ?_⟩) hHeld ?_ ?_
   rotate_left
   ·rintro w' ⟨s0, s1, s2, s3⟩
    go_simp
    with_reducible rfl
   rotate_left
   ·simp only [put, setIfInBounds_toArray, set_cons_zero, set_cons_succ, i64_w, i32_w]
    rfl
   refine take_ (i := 9) (N := some 27) (v := ?_) (a' := ?_) #[true, true, true, true, true, true, true, true, true, true, false, false, true, false, false, false, false, false, false] rfl rfl (take_ofW HT_.out HW_.out (by kernel_rfl)) (fun _ _ _ h => h) (Or.inl ⟨by rfl, ?_⟩) hHeld ?_ ?_
   rotate_left
   ·rintro w' ⟨s0, s1, s2, s3⟩
    go_simp
    with_reducible rfl
   rotate_left
   ·simp only [put, setIfInBounds_toArray, set_cons_zero, set_cons_succ, i64_w, i32_w]
    rfl
   refine pure_ (i := 10) (N := some 28) (v := ?_) (a' := ?_) #[true, true, true, true, true, true, true, true, true, true, true, false, true, false, false, false, false, false, false] rfl rfl (any_of HT_.out (by kernel_rfl)) (fun _ _ _ h => h) (Or.inl ⟨by rfl, ?_⟩) ?_ ?_
   rotate_left
   ·intro w'
    go_simp
    with_reducible rfl
   rotate_left
   ·simp only [put, setIfInBounds_toArray, set_cons_zero, set_cons_succ, i64_w, i32_w]
    rfl
   refine take_ (i := 13) (N := some 31) (v := ?_) (a' := ?_) #[true, true, true, true, true, true, true, true, true, true, true, false, true, true, false, false, false, false, false] rfl rfl (take_ofW HT_.out HW_.out (by kernel_rfl)) (fun _ _ _ h => h) (Or.inl ⟨by rfl, ?_⟩) hHeld ?_ ?_
   rotate_left
   ·rintro w' ⟨s0, s1, s2, s3⟩
    go_simp
    with_reducible rfl
   rotate_left
   ·simp only [put, setIfInBounds_toArray, set_cons_zero, set_cons_succ, i64_w, i32_w]
    rfl
   refine pure_ (i := 14) (N := some 32) (v := ?_) (a' := ?_) #[true, true, true, true, true, true, true, true, true, true, true, false, true, true, true, false, false, false, false] rfl rfl (any_of HT_.out (by kernel_rfl)) (fun _ _ _ h => h) (Or.inl ⟨by rfl, ?_⟩) ?_ ?_
   rotate_left
   ·intro w'
    go_simp
    with_reducible rfl
   rotate_left
   ·simp only [put, setIfInBounds_toArray, set_cons_zero, set_cons_succ, i64_w, i32_w]
    rfl
   refine one_ (i := 11) (N := some 29) #[true, true, true, true, true, true, true, true, true, true, true, true, true, true, true, false, false, false, false] rfl rfl (one_of HT_.out (by kernel_rfl)) (by decide) (fun K hK => ?_)
   refine goes_ Try.func90 (by kernel_rfl) rfl #[.agg #[.bool a0_0, .int .i64 a0_1, .int .i64 a0_2], .int .i64 (wrap64 (a0_3 + 1))] (by rfl) rfl rfl (by (try simp only [List.map_toArray, List.map_cons, List.map_nil]); first | done | rfl | (simp only [List.length_drop, List.length_take]; rfl)) ?_
   with_reducible refine (impl_flipped.calls a0_0 a0_1 a0_2 (wrap64 (a0_3 + 1)) t245 t246 t247 _ A17.out).mono ?_
   rintro e w25 ⟨rfl, hb⟩
   refine ⟨_, rfl, ?_⟩
   have n0_ := Aside0.mk (blk_below (g := gb240) (o := .cells #[.bool a0_0, .int .i64 a0_1, .int .i64 a0_2, .int .i64 a0_3] 31 (0, 0)) (by (with_reducible repeat (first | apply blk_drewN | apply blk_drew | apply blk_alloc)); exact BK240.out) hb)
   have n1_ := Aside0.mk (blk_below (g := gb241) (o := .cells #[.bool false, .int .i64 0, .int .i64 0, .int .i64 0] 31 (0, 0)) (by (with_reducible repeat (first | apply blk_drewN | apply blk_drew | apply blk_alloc)); exact BK241.out) hb)
   have n2_ := Aside0.mk (blk_below (g := gb242) (o := .cells #[.bool false, .int .i64 0, .int .i64 0, .int .i64 0] 31 (0, 0)) (by (with_reducible repeat (first | apply blk_drewN | apply blk_drew | apply blk_alloc)); exact BK242.out) hb)
   have n3_ := Aside0.mk (below_step (by repeat (first | (with_reducible first | exact HB.out | apply below_alloc | apply pw_below_drewN | apply below_drew1 | refine below_set ?_ GE240.out | refine below_set ?_ GE241.out | refine below_set ?_ GE242.out) | exact HB.out)) hb)
   clear BK240
   clear BK241
   clear BK242
   clear HB
   have BK240 := n0_
   have BK241 := n1_
   have BK242 := n2_
   have HB := n3_
   clear n0_ n1_ n2_ n3_
   (try clear hb)
   (try clear hb2)
   (try clear hk)
   (try clear hi)
   refine hK.out _ _ ⟨(blk_cell BK240.out 0).trans rfl, (blk_cell BK240.out 1).trans rfl, (blk_cell BK240.out 2).trans rfl, (blk_cell BK240.out 3).trans rfl⟩ (fun hHeld => ?_)
   clear hK K
   refine norm_ (a' := ?_) ?_ ?_
   rotate_left
   ·show Act.put _ (some 29) _ = _
    simp only [put, setIfInBounds_toArray, set_cons_zero, set_cons_succ, i64_w, i32_w]
    rfl
   refine pure_ (i := 15) (N := some 33) (v := ?_) (a' := ?_) #[true, true, true, true, true, true, true, true, true, true, true, true, true, true, true, true, false, false, false] rfl rfl (any_of HT_.out (by kernel_rfl)) (fun _ _ _ h => h) (Or.inl ⟨by rfl, ?_⟩) ?_ ?_
   rotate_left
   ·intro w'
    go_simp
    with_reducible rfl
   rotate_left
   ·simp only [put, setIfInBounds_toArray, set_cons_zero, set_cons_succ, i64_w, i32_w]
    rfl
   refine one_ (i := 16) (N := none) #[true, true, true, true, true, true, true, true, true, true, true, true, true, true, true, true, true, false, false] rfl rfl (one_of HT_.out (by kernel_rfl)) (by decide) (fun K hK => ?_)
   have hs26 : w25.cell? ⟨gb241, 0, none⟩ = some (.bool false) := (blk_cell BK241.out 0).trans rfl
   have hfs26 := blk_frozen BK241.out 0
   have hns26_0 := NB240_241.out
   have hns26_2 := NB242_241.out
   have hms26_0 := NB241_240.out
   have hms26_2 := NB241_242.out
   have hs27 : w25.cell? ⟨gb241, 1, none⟩ = some (.int .i64 0) := (blk_cell BK241.out 1).trans rfl
   have hfs27 := blk_frozen BK241.out 1
   have hns27_0 := NB240_241.out
   have hns27_2 := NB242_241.out
   have hms27_0 := NB241_240.out
   have hms27_2 := NB241_242.out
   have hs28 : w25.cell? ⟨gb241, 2, none⟩ = some (.int .i64 0) := (blk_cell BK241.out 2).trans rfl
   have hfs28 := blk_frozen BK241.out 2
   have hns28_0 := NB240_241.out
   have hns28_2 := NB242_241.out
   have hms28_0 := NB241_240.out
   have hms28_2 := NB241_242.out
   have hs29 : w25.cell? ⟨gb241, 3, none⟩ = some (.int .i64 0) := (blk_cell BK241.out 3).trans rfl
   have hfs29 := blk_frozen BK241.out 3
   have hns29_0 := NB240_241.out
   have hns29_2 := NB242_241.out
   have hms29_0 := NB241_240.out
   have hms29_2 := NB241_242.out
   refine skip_ (w1 := ?_) (by rfl) rfl ?_ ?_
   rotate_left
   ·go_simp
    rfl
   refine hK.out _ _ ⟨((cell_far (p := ⟨gb241, _, none⟩) NB240_241.out _).trans (((cell_far (p := ⟨gb241, _, none⟩) NB240_241.out _).trans (((cell_far (p := ⟨gb241, _, none⟩) NB240_241.out _).trans (((cell_far (p := ⟨gb241, _, none⟩) NB240_241.out _).trans (hHeld.1)))))))), ((cell_far (p := ⟨gb241, _, none⟩) NB240_241.out _).trans (((cell_far (p := ⟨gb241, _, none⟩) NB240_241.out _).trans (((cell_far (p := ⟨gb241, _, none⟩) NB240_241.out _).trans (((cell_far (p := ⟨gb241, _, none⟩) NB240_241.out _).trans (hHeld.2.1)))))))), ((cell_far (p := ⟨gb241, _, none⟩) NB240_241.out _).trans (((cell_far (p := ⟨gb241, _, none⟩) NB240_241.out _).trans (((cell_far (p := ⟨gb241, _, none⟩) NB240_241.out _).trans (((cell_far (p := ⟨gb241, _, none⟩) NB240_241.out _).trans (hHeld.2.2.1)))))))), ((cell_far (p := ⟨gb241, _, none⟩) NB240_241.out _).trans (((cell_far (p := ⟨gb241, _, none⟩) NB240_241.out _).trans (((cell_far (p := ⟨gb241, _, none⟩) NB240_241.out _).trans (((cell_far (p := ⟨gb241, _, none⟩) NB240_241.out _).trans (hHeld.2.2.2))))))))⟩ (fun hHeld => ?_)
   clear hK K
   refine one_ (i := 17) (N := none) #[true, true, true, true, true, true, true, true, true, true, true, true, true, true, true, true, true, true, false] rfl rfl (one_of HT_.out (by kernel_rfl)) (by decide) (fun K hK => ?_)
   have hs30 : w25.cell? ⟨gb242, 0, none⟩ = some (.bool false) := (blk_cell BK242.out 0).trans rfl
   have hfs30 := blk_frozen BK242.out 0
   have hns30_0 := NB240_242.out
   have hns30_1 := NB241_242.out
   have hms30_0 := NB242_240.out
   have hms30_1 := NB242_241.out
   have hs31 : w25.cell? ⟨gb242, 1, none⟩ = some (.int .i64 0) := (blk_cell BK242.out 1).trans rfl
   have hfs31 := blk_frozen BK242.out 1
   have hns31_0 := NB240_242.out
   have hns31_1 := NB241_242.out
   have hms31_0 := NB242_240.out
   have hms31_1 := NB242_241.out
   have hs32 : w25.cell? ⟨gb242, 2, none⟩ = some (.int .i64 0) := (blk_cell BK242.out 2).trans rfl
   have hfs32 := blk_frozen BK242.out 2
   have hns32_0 := NB240_242.out
   have hns32_1 := NB241_242.out
   have hms32_0 := NB242_240.out
   have hms32_1 := NB242_241.out
   have hs33 : w25.cell? ⟨gb242, 3, none⟩ = some (.int .i64 0) := (blk_cell BK242.out 3).trans rfl
   have hfs33 := blk_frozen BK242.out 3
   have hns33_0 := NB240_242.out
   have hns33_1 := NB241_242.out
   have hms33_0 := NB242_240.out
   have hms33_1 := NB242_241.out
   refine skip_ (w1 := ?_) (by rfl) rfl ?_ ?_
   rotate_left
   ·go_simp
    rfl
   refine hK.out _ _ ⟨((cell_far (p := ⟨gb242, _, none⟩) NB240_242.out _).trans (((cell_far (p := ⟨gb242, _, none⟩) NB240_242.out _).trans (((cell_far (p := ⟨gb242, _, none⟩) NB240_242.out _).trans (((cell_far (p := ⟨gb242, _, none⟩) NB240_242.out _).trans (hHeld.1)))))))), ((cell_far (p := ⟨gb242, _, none⟩) NB240_242.out _).trans (((cell_far (p := ⟨gb242, _, none⟩) NB240_242.out _).trans (((cell_far (p := ⟨gb242, _, none⟩) NB240_242.out _).trans (((cell_far (p := ⟨gb242, _, none⟩) NB240_242.out _).trans (hHeld.2.1)))))))), ((cell_far (p := ⟨gb242, _, none⟩) NB240_242.out _).trans (((cell_far (p := ⟨gb242, _, none⟩) NB240_242.out _).trans (((cell_far (p := ⟨gb242, _, none⟩) NB240_242.out _).trans (((cell_far (p := ⟨gb242, _, none⟩) NB240_242.out _).trans (hHeld.2.2.1)))))))), ((cell_far (p := ⟨gb242, _, none⟩) NB240_242.out _).trans (((cell_far (p := ⟨gb242, _, none⟩) NB240_242.out _).trans (((cell_far (p := ⟨gb242, _, none⟩) NB240_242.out _).trans (((cell_far (p := ⟨gb242, _, none⟩) NB240_242.out _).trans (hHeld.2.2.2))))))))⟩ (fun hHeld => ?_)
   clear hK K
   refine pure_ (i := 18) (N := some 4) (v := ?_) (a' := ?_) #[true, true, true, true, true, true, true, true, true, true, true, true, true, true, true, true, true, true, true] rfl rfl (any_of HT_.out (by kernel_rfl)) (fun _ _ _ h => h) (Or.inl ⟨by rfl, ?_⟩) ?_ ?_
   rotate_left
   ·intro w'
    go_simp
    with_reducible rfl
   rotate_left
   ·simp only [put, setIfInBounds_toArray, set_cons_zero, set_cons_succ, i64_w, i32_w]
    rfl
   refine done_ (done_of HT_.out (by kernel_rfl)) ?_
   try go_wp2
   refine bodyPost_ret (results_list (rs := [.cell 2 31, .cell 3 31, .tmp 4]) rfl (by simp) (.cell gb241 31 #[.bool a0_0, .int .i64 a0_1, .int .i64 a0_2, .int .i64 (wrap64 (a0_3 + 1))] (0, 0) _ rfl (by (with_reducible repeat (first | apply blk_drewN | apply blk_drew | apply blk_alloc)); refine blk_far ?_ NB241_242.out _; (with_reducible repeat (first | apply blk_drewN | apply blk_drew | apply blk_alloc)); refine blk_far ?_ NB241_242.out _; (with_reducible repeat (first | apply blk_drewN | apply blk_drew | apply blk_alloc)); refine blk_far ?_ NB241_242.out _; (with_reducible repeat (first | apply blk_drewN | apply blk_drew | apply blk_alloc)); refine blk_far ?_ NB241_242.out _; (with_reducible repeat (first | apply blk_drewN | apply blk_drew | apply blk_alloc)); refine blk_put (cs := #[.bool a0_0, .int .i64 a0_1, .int .i64 a0_2, .int .i64 0]) ?_ 3 _ rfl; (with_reducible repeat (first | apply blk_drewN | apply blk_drew | apply blk_alloc)); refine blk_put (cs := #[.bool a0_0, .int .i64 a0_1, .int .i64 0, .int .i64 0]) ?_ 2 _ rfl; (with_reducible repeat (first | apply blk_drewN | apply blk_drew | apply blk_alloc)); refine blk_put (cs := #[.bool a0_0, .int .i64 0, .int .i64 0, .int .i64 0]) ?_ 1 _ rfl; (with_reducible repeat (first | apply blk_drewN | apply blk_drew | apply blk_alloc)); refine blk_put (cs := #[.bool false, .int .i64 0, .int .i64 0, .int .i64 0]) ?_ 0 _ rfl; (with_reducible repeat (first | apply blk_drewN | apply blk_drew | apply blk_alloc)); exact BK241.out) Try.underlying31 rfl (by kernel_rfl) (.cell gb242 31 #[.bool t245, .int .i64 t246, .int .i64 t247, .int .i64 (wrap64 (a0_3 + 1))] (0, 0) _ rfl (by (with_reducible repeat (first | apply blk_drewN | apply blk_drew | apply blk_alloc)); refine blk_put (cs := #[.bool t245, .int .i64 t246, .int .i64 t247, .int .i64 0]) ?_ 3 _ rfl; (with_reducible repeat (first | apply blk_drewN | apply blk_drew | apply blk_alloc)); refine blk_put (cs := #[.bool t245, .int .i64 t246, .int .i64 0, .int .i64 0]) ?_ 2 _ rfl; (with_reducible repeat (first | apply blk_drewN | apply blk_drew | apply blk_alloc)); refine blk_put (cs := #[.bool t245, .int .i64 0, .int .i64 0, .int .i64 0]) ?_ 1 _ rfl; (with_reducible repeat (first | apply blk_drewN | apply blk_drew | apply blk_alloc)); refine blk_put (cs := #[.bool false, .int .i64 0, .int .i64 0, .int .i64 0]) ?_ 0 _ rfl; (with_reducible repeat (first | apply blk_drewN | apply blk_drew | apply blk_alloc)); refine blk_far ?_ NB242_241.out _; (with_reducible repeat (first | apply blk_drewN | apply blk_drew | apply blk_alloc)); refine blk_far ?_ NB242_241.out _; (with_reducible repeat (first | apply blk_drewN | apply blk_drew | apply blk_alloc)); refine blk_far ?_ NB242_241.out _; (with_reducible repeat (first | apply blk_drewN | apply blk_drew | apply blk_alloc)); refine blk_far ?_ NB242_241.out _; (with_reducible repeat (first | apply blk_drewN | apply blk_drew | apply blk_alloc)); exact BK242.out) Try.underlying31 rfl (by kernel_rfl) (.tmp .nil)))) rfl ?_
   exact ⟨by first | rfl | (simp [errW_none, errW_some] <;> rfl) | (simp [*, errW_none, errW_some] <;> rfl), by repeat (first | (with_reducible first | exact HB.out | apply below_alloc | apply pw_below_drewN | apply below_drew1 | refine below_set ?_ GE240.out | refine below_set ?_ GE241.out | refine below_set ?_ GE242.out) | exact HB.out)⟩
 ·replace c3 := Bool.eq_false_iff.mpr c3
  subst c3
  have H1 : (some (false, 0, 0, 0, false, 0, 0, 0, false)) = some (r1, r2, r3, r4, r5, r6, r7, r8, r9) := by rw [if_neg (show ¬ (false = true) by decide)] at H; exact H
  clear H
  have H := H1
  clear H1
  simp only [Option.some.injEq, Prod.mk.injEq] at H
  obtain ⟨rfl, rfl, rfl, rfl, rfl, rfl, rfl, rfl, rfl⟩ := H
  go_enter Try.func35, Try.ntmps35
  try go_wp2_with (first | ((with_reducible refine gate_dst (N := 1) rfl ?_); refine box_event ?hg (N := 1) ?hd (cs := #[.bool a0_0, .int .i64 a0_1, .int .i64 a0_2, .int .i64 a0_3]) (t := 31) ?hr ?_; (case hd => rfl); (case hg => rfl); (case hr => first | (go_simp; done) | (go_simp; rfl)); intro gb240 hg w34 hbox hb; have n0_ := Aside0.mk (below_step (by repeat (first | (with_reducible first | exact HB.out | apply below_alloc | apply pw_below_drewN | apply below_drew1) | exact HB.out)) hb); have n1_ := Aside0.mk (hbox); have n2_ := Aside0.mk ((by rw [hg]; exact (below_size (by repeat (first | (with_reducible first | exact HB.out | apply below_alloc | apply pw_below_drewN | apply below_drew1) | exact HB.out))) : w.heap.size ≤ gb240)); have n3_ := Aside0.mk ((by rw [hg]; exact (below_size (by repeat (first | (with_reducible first | exact HB.out | apply below_alloc | apply pw_below_drewN | apply below_drew1) | exact HB.out))) : w.heap.size ≤ gb240)); clear HB; have HB := n0_; have BK240 := n1_; have GW240 := n2_; have GE240 := n3_; clear n0_ n1_ n2_ n3_; clear hb hbox hg) | ((with_reducible refine gate_dst (N := 2) rfl ?_); refine box_event ?hg (N := 2) ?hd (cs := #[.bool false, .int .i64 0, .int .i64 0, .int .i64 0]) (t := 31) ?hr ?_; (case hd => rfl); (case hg => rfl); (case hr => first | (go_simp; done) | (go_simp; rfl)); intro gb241 hg w35 hbox hb; have n0_ := Aside0.mk (blk_below (g := gb240) (o := .cells #[.bool a0_0, .int .i64 a0_1, .int .i64 a0_2, .int .i64 a0_3] 31 (0, 0)) (by (with_reducible repeat (first | apply blk_drewN | apply blk_drew | apply blk_alloc)); exact BK240.out) hb); have n1_ := Aside0.mk (below_step (by repeat (first | (with_reducible first | exact HB.out | apply below_alloc | apply pw_below_drewN | apply below_drew1 | refine below_set ?_ GE240.out) | exact HB.out)) hb); have n2_ := Aside0.mk (hbox); have n3_ := Aside0.mk ((by rw [hg]; exact (below_size (by repeat (first | (with_reducible first | exact HB.out | apply below_alloc | apply pw_below_drewN | apply below_drew1 | refine below_set ?_ GE240.out) | exact HB.out))) : w.heap.size ≤ gb241)); have n4_ := Aside0.mk ((by rw [hg]; exact (below_size (by repeat (first | (with_reducible first | exact HB.out | apply below_alloc | apply pw_below_drewN | apply below_drew1 | refine below_set ?_ GE240.out) | exact HB.out))) : w.heap.size ≤ gb241)); have n5_ := Aside0.mk ((by rw [hg]; exact Nat.ne_of_lt (blk_lt (g := gb240) (o := .cells #[.bool a0_0, .int .i64 a0_1, .int .i64 a0_2, .int .i64 a0_3] 31 (0, 0)) (by (with_reducible repeat (first | apply blk_drewN | apply blk_drew | apply blk_alloc)); exact BK240.out)) : gb240 ≠ gb241)); have n6_ := Aside0.mk ((by rw [hg]; exact Nat.ne_of_gt (blk_lt (g := gb240) (o := .cells #[.bool a0_0, .int .i64 a0_1, .int .i64 a0_2, .int .i64 a0_3] 31 (0, 0)) (by (with_reducible repeat (first | apply blk_drewN | apply blk_drew | apply blk_alloc)); exact BK240.out)) : gb241 ≠ gb240)); clear BK240; clear HB; have BK240 := n0_; have HB := n1_; have BK241 := n2_; have GW241 := n3_; have GE241 := n4_; have NB240_241 := n5_; have NB241_240 := n6_; clear n0_ n1_ n2_ n3_ n4_ n5_ n6_; clear hb hbox hg) | ((with_reducible refine gate_dst (N := 3) rfl ?_); refine box_event ?hg (N := 3) ?hd (cs := #[.bool false, .int .i64 0, .int .i64 0, .int .i64 0]) (t := 31) ?hr ?_; (case hd => rfl); (case hg => rfl); (case hr => first | (go_simp; done) | (go_simp; rfl)); intro gb242 hg w36 hbox hb; have n0_ := Aside0.mk (blk_below (g := gb240) (o := .cells #[.bool a0_0, .int .i64 a0_1, .int .i64 a0_2, .int .i64 a0_3] 31 (0, 0)) (by (with_reducible repeat (first | apply blk_drewN | apply blk_drew | apply blk_alloc)); exact BK240.out) hb); have n1_ := Aside0.mk (blk_below (g := gb241) (o := .cells #[.bool false, .int .i64 0, .int .i64 0, .int .i64 0] 31 (0, 0)) (by (with_reducible repeat (first | apply blk_drewN | apply blk_drew | apply blk_alloc)); exact BK241.out) hb); have n2_ := Aside0.mk (below_step (by repeat (first | (with_reducible first | exact HB.out | apply below_alloc | apply pw_below_drewN | apply below_drew1 | refine below_set ?_ GE240.out | refine below_set ?_ GE241.out) | exact HB.out)) hb); have n3_ := Aside0.mk (hbox); have n4_ := Aside0.mk ((by rw [hg]; exact (below_size (by repeat (first | (with_reducible first | exact HB.out | apply below_alloc | apply pw_below_drewN | apply below_drew1 | refine below_set ?_ GE240.out | refine below_set ?_ GE241.out) | exact HB.out))) : w.heap.size ≤ gb242)); have n5_ := Aside0.mk ((by rw [hg]; exact (below_size (by repeat (first | (with_reducible first | exact HB.out | apply below_alloc | apply pw_below_drewN | apply below_drew1 | refine below_set ?_ GE240.out | refine below_set ?_ GE241.out) | exact HB.out))) : w.heap.size ≤ gb242)); have n6_ := Aside0.mk ((by rw [hg]; exact Nat.ne_of_lt (blk_lt (g := gb240) (o := .cells #[.bool a0_0, .int .i64 a0_1, .int .i64 a0_2, .int .i64 a0_3] 31 (0, 0)) (by (with_reducible repeat (first | apply blk_drewN | apply blk_drew | apply blk_alloc)); exact BK240.out)) : gb240 ≠ gb242)); have n7_ := Aside0.mk ((by rw [hg]; exact Nat.ne_of_gt (blk_lt (g := gb240) (o := .cells #[.bool a0_0, .int .i64 a0_1, .int .i64 a0_2, .int .i64 a0_3] 31 (0, 0)) (by (with_reducible repeat (first | apply blk_drewN | apply blk_drew | apply blk_alloc)); exact BK240.out)) : gb242 ≠ gb240)); have n8_ := Aside0.mk ((by rw [hg]; exact Nat.ne_of_lt (blk_lt (g := gb241) (o := .cells #[.bool false, .int .i64 0, .int .i64 0, .int .i64 0] 31 (0, 0)) (by (with_reducible repeat (first | apply blk_drewN | apply blk_drew | apply blk_alloc)); exact BK241.out)) : gb241 ≠ gb242)); have n9_ := Aside0.mk ((by rw [hg]; exact Nat.ne_of_gt (blk_lt (g := gb241) (o := .cells #[.bool false, .int .i64 0, .int .i64 0, .int .i64 0] 31 (0, 0)) (by (with_reducible repeat (first | apply blk_drewN | apply blk_drew | apply blk_alloc)); exact BK241.out)) : gb242 ≠ gb241)); clear BK240; clear BK241; clear HB; have BK240 := n0_; have BK241 := n1_; have HB := n2_; have BK242 := n3_; have GW242 := n4_; have GE242 := n5_; have NB240_242 := n6_; have NB242_240 := n7_; have NB241_242 := n8_; have NB242_241 := n9_; clear n0_ n1_ n2_ n3_ n4_ n5_ n6_ n7_ n8_ n9_; clear hb hbox hg))
  have n0_ := Aside0.mk (blk_drew BK240.out)
  have n1_ := Aside0.mk (blk_drew BK241.out)
  have n2_ := Aside0.mk (blk_drew BK242.out)
  have n3_ := Aside0.mk (below_drew1 HB.out)
  clear BK240
  clear BK241
  clear BK242
  clear HB
  have BK240 := n0_
  have BK241 := n1_
  have BK242 := n2_
  have HB := n3_
  clear n0_ n1_ n2_ n3_
  refine start_ (n := 11) (S := fun w' => w'.cell? ⟨gb240, 0, none⟩ = some (.bool a0_0) ∧ w'.cell? ⟨gb240, 1, none⟩ = some (.int .i64 a0_1) ∧ w'.cell? ⟨gb240, 2, none⟩ = some (.int .i64 a0_2) ∧ w'.cell? ⟨gb240, 3, none⟩ = some (.int .i64 a0_3)) (ds := []) #[false, false, false, false, false, false, false, false, false, false, false] (by kernel_rfl) rfl rfl ⟨(blk_cell BK240.out 0).trans rfl, (blk_cell BK240.out 1).trans rfl, (blk_cell BK240.out 2).trans rfl, (blk_cell BK240.out 3).trans rfl⟩ (fun hHeld => ?_); refine with_tabW impl_Halves.tab1 impl_Halves.bits1 (fun HT_ HW_ => ?_)
  generalize w36.drew = w37 at BK240 BK241 BK242 HB hHeld ⊢
  refine take_ (i := 0) (N := some 5) (v := ?_) (a' := ?_) #[true, false, false, false, false, false, false, false, false, false, false] rfl rfl (take_ofW HT_.out HW_.out (by kernel_rfl)) (fun _ _ _ h => h) (Or.inl ⟨by rfl, ?_⟩) hHeld ?_ ?_
  rotate_left
  ·rintro w' ⟨s0, s1, s2, s3⟩
   go_simp
   with_reducible rfl
  rotate_left
  ·simp only [put, setIfInBounds_toArray, set_cons_zero, set_cons_succ, i64_w, i32_w]
   rfl
  refine one_ (i := 1) (N := some 6) #[true, true, false, false, false, false, false, false, false, false, false] rfl rfl (one_of HT_.out (by kernel_rfl)) (by decide) (fun K hK => ?_)
  refine goes_ Try.func38 (by kernel_rfl) rfl #[.agg #[.bool a0_0, .int .i64 a0_1, .int .i64 a0_2, .int .i64 a0_3]] (by rfl) rfl rfl (by (try simp only [List.map_toArray, List.map_cons, List.map_nil]); first | done | rfl | (simp only [List.length_drop, List.length_take]; rfl)) ?_
  with_reducible refine (impl_PrefixOk.calls a0_0 a0_1 a0_2 a0_3 false _ A2.out).mono ?_
  rintro e w38 ⟨rfl, hb⟩
  refine ⟨_, rfl, ?_⟩
  have n0_ := Aside0.mk (blk_below (g := gb240) (o := .cells #[.bool a0_0, .int .i64 a0_1, .int .i64 a0_2, .int .i64 a0_3] 31 (0, 0)) (by (with_reducible repeat (first | apply blk_drewN | apply blk_drew | apply blk_alloc)); exact BK240.out) hb)
  have n1_ := Aside0.mk (blk_below (g := gb241) (o := .cells #[.bool false, .int .i64 0, .int .i64 0, .int .i64 0] 31 (0, 0)) (by (with_reducible repeat (first | apply blk_drewN | apply blk_drew | apply blk_alloc)); exact BK241.out) hb)
  have n2_ := Aside0.mk (blk_below (g := gb242) (o := .cells #[.bool false, .int .i64 0, .int .i64 0, .int .i64 0] 31 (0, 0)) (by (with_reducible repeat (first | apply blk_drewN | apply blk_drew | apply blk_alloc)); exact BK242.out) hb)
  have n3_ := Aside0.mk (below_step (by repeat (first | (with_reducible first | exact HB.out | apply below_alloc | apply pw_below_drewN | apply below_drew1 | refine below_set ?_ GE240.out | refine below_set ?_ GE241.out | refine below_set ?_ GE242.out) | exact HB.out)) hb)
  clear BK240
  clear BK241
  clear BK242
  clear HB
  have BK240 := n0_
  have BK241 := n1_
  have BK242 := n2_
  have HB := n3_
  clear n0_ n1_ n2_ n3_
  (try clear hb)
  (try clear hb2)
  (try clear hk)
  (try clear hi)
  refine hK.out _ _ ⟨(blk_cell BK240.out 0).trans rfl, (blk_cell BK240.out 1).trans rfl, (blk_cell BK240.out 2).trans rfl, (blk_cell BK240.out 3).trans rfl⟩ (fun hHeld => ?_)
  clear hK K
  refine norm_ (a' := ?_) ?_ ?_
  rotate_left
  ·show Act.put _ (some 6) _ = _
   simp only [put, setIfInBounds_toArray, set_cons_zero, set_cons_succ, i64_w, i32_w]
   rfl
  refine pure_ (i := 2) (N := some 7) (v := ?_) (a' := ?_) #[true, true, true, false, false, false, false, false, false, false, false] rfl rfl (any_of HT_.out (by kernel_rfl)) (fun _ _ _ h => h) (Or.inl ⟨by rfl, ?_⟩) ?_ ?_
  rotate_left
  ·intro w'
   go_simp
   with_reducible rfl
  rotate_left
  ·simp only [put, setIfInBounds_toArray, set_cons_zero, set_cons_succ, i64_w, i32_w]
   rfl
  refine pure_ (i := 3) (N := some 8) (v := ?_) (a' := ?_) #[true, true, true, true, false, false, false, false, false, false, false] rfl rfl (any_of HT_.out (by kernel_rfl)) (fun _ _ _ h => h) (Or.inl ⟨by rfl, ?_⟩) ?_ ?_
  rotate_left
  ·intro w'
   go_simp
   with_reducible rfl
  rotate_left
  ·simp only [put, setIfInBounds_toArray, set_cons_zero, set_cons_succ, i64_w, i32_w]
   rfl
  refine pure_ (i := 4) (N := some 9) (v := undef) (a' := ?_) #[true, true, true, true, true, false, false, false, false, false, false] rfl rfl (any_of HT_.out (by kernel_rfl)) (fun _ _ _ h => h) (Or.inr ⟨by rfl, rfl⟩) ?_ ?_
  rotate_left
  ·simp only [put, setIfInBounds_toArray, set_cons_zero, set_cons_succ, i64_w, i32_w]
   rfl
  refine pure_ (i := 5) (N := some 10) (v := undef) (a' := ?_) #[true, true, true, true, true, true, false, false, false, false, false] rfl rfl (any_of HT_.out (by kernel_rfl)) (fun _ _ _ h => h) (Or.inr ⟨by rfl, rfl⟩) ?_ ?_
  rotate_left
  ·simp only [put, setIfInBounds_toArray, set_cons_zero, set_cons_succ, i64_w, i32_w]
   rfl
  refine pure_ (i := 6) (N := some 11) (v := undef) (a' := ?_) #[true, true, true, true, true, true, true, false, false, false, false] rfl rfl (any_of HT_.out (by kernel_rfl)) (fun _ _ _ h => h) (Or.inr ⟨by rfl, rfl⟩) ?_ ?_
  rotate_left
  ·simp only [put, setIfInBounds_toArray, set_cons_zero, set_cons_succ, i64_w, i32_w]
   rfl
  refine pure_ (i := 7) (N := some 12) (v := undef) (a' := ?_) #[true, true, true, true, true, true, true, true, false, false, false] rfl rfl (any_of HT_.out (by kernel_rfl)) (fun _ _ _ h => h) (Or.inr ⟨by rfl, rfl⟩) ?_ ?_
  rotate_left
  ·simp only [put, setIfInBounds_toArray, set_cons_zero, set_cons_succ, i64_w, i32_w]
   rfl
  refine pure_ (i := 8) (N := some 13) (v := undef) (a' := ?_) #[true, true, true, true, true, true, true, true, true, false, false] rfl rfl (any_of HT_.out (by kernel_rfl)) (fun _ _ _ h => h) (Or.inr ⟨by rfl, rfl⟩) ?_ ?_
  rotate_left
  ·simp only [put, setIfInBounds_toArray, set_cons_zero, set_cons_succ, i64_w, i32_w]
   rfl
  refine pure_ (i := 9) (N := some 14) (v := undef) (a' := ?_) #[true, true, true, true, true, true, true, true, true, true, false] rfl rfl (any_of HT_.out (by kernel_rfl)) (fun _ _ _ h => h) (Or.inr ⟨by rfl, rfl⟩) ?_ ?_
  rotate_left
  ·simp only [put, setIfInBounds_toArray, set_cons_zero, set_cons_succ, i64_w, i32_w]
   rfl
  refine pure_ (i := 10) (N := some 15) (v := ?_) (a' := ?_) #[true, true, true, true, true, true, true, true, true, true, true] rfl rfl (any_of HT_.out (by kernel_rfl)) (fun _ _ _ h => h) (Or.inl ⟨by rfl, ?_⟩) ?_ ?_
  rotate_left
  ·intro w'
   go_simp
   with_reducible rfl
  rotate_left
  ·simp only [put, setIfInBounds_toArray, set_cons_zero, set_cons_succ, i64_w, i32_w]
   rfl
  refine done_ (done_of HT_.out (by kernel_rfl)) ?_
  have hnb39 := NB241_240.out
  have hnc39 := NB240_241.out
  have hnb40 := NB241_242.out
  have hnc40 := NB242_241.out
  have hcz41_0 : w38.cell? ⟨gb241, 0, none⟩ = some (.bool false) := (blk_cell BK241.out 0).trans rfl
  have hcz41_1 : w38.cell? ⟨gb241, 1, none⟩ = some (.int .i64 0) := (blk_cell BK241.out 1).trans rfl
  have hcz41_2 : w38.cell? ⟨gb241, 2, none⟩ = some (.int .i64 0) := (blk_cell BK241.out 2).trans rfl
  have hcz41_3 : w38.cell? ⟨gb241, 3, none⟩ = some (.int .i64 0) := (blk_cell BK241.out 3).trans rfl
  have hfz41_0 := blk_frozen BK241.out 0
  have hfz41_1 := blk_frozen BK241.out 1
  have hfz41_2 := blk_frozen BK241.out 2
  have hfz41_3 := blk_frozen BK241.out 3
  have hnb42 := NB242_240.out
  have hnc42 := NB240_242.out
  have hcz43_0 : w38.cell? ⟨gb242, 0, none⟩ = some (.bool false) := (blk_cell BK242.out 0).trans rfl
  have hcz43_1 : w38.cell? ⟨gb242, 1, none⟩ = some (.int .i64 0) := (blk_cell BK242.out 1).trans rfl
  have hcz43_2 : w38.cell? ⟨gb242, 2, none⟩ = some (.int .i64 0) := (blk_cell BK242.out 2).trans rfl
  have hcz43_3 : w38.cell? ⟨gb242, 3, none⟩ = some (.int .i64 0) := (blk_cell BK242.out 3).trans rfl
  have hfz43_0 := blk_frozen BK242.out 0
  have hfz43_1 := blk_frozen BK242.out 1
  have hfz43_2 := blk_frozen BK242.out 2
  have hfz43_3 := blk_frozen BK242.out 3
  try go_wp2
  refine bodyPost_ret (results_list (rs := [.cell 2 31, .cell 3 31, .tmp 4]) rfl (by simp) (.cell gb241 31 #[.bool false, .int .i64 0, .int .i64 0, .int .i64 0] (0, 0) _ rfl (by (with_reducible repeat (first | apply blk_drewN | apply blk_drew | apply blk_alloc)); refine blk_far ?_ NB241_242.out _; (with_reducible repeat (first | apply blk_drewN | apply blk_drew | apply blk_alloc)); refine blk_far ?_ NB241_242.out _; (with_reducible repeat (first | apply blk_drewN | apply blk_drew | apply blk_alloc)); refine blk_far ?_ NB241_242.out _; (with_reducible repeat (first | apply blk_drewN | apply blk_drew | apply blk_alloc)); refine blk_far ?_ NB241_242.out _; (with_reducible repeat (first | apply blk_drewN | apply blk_drew | apply blk_alloc)); refine blk_put (cs := #[.bool false, .int .i64 0, .int .i64 0, .int .i64 0]) ?_ 3 _ rfl; (with_reducible repeat (first | apply blk_drewN | apply blk_drew | apply blk_alloc)); refine blk_put (cs := #[.bool false, .int .i64 0, .int .i64 0, .int .i64 0]) ?_ 2 _ rfl; (with_reducible repeat (first | apply blk_drewN | apply blk_drew | apply blk_alloc)); refine blk_put (cs := #[.bool false, .int .i64 0, .int .i64 0, .int .i64 0]) ?_ 1 _ rfl; (with_reducible repeat (first | apply blk_drewN | apply blk_drew | apply blk_alloc)); refine blk_put (cs := #[.bool false, .int .i64 0, .int .i64 0, .int .i64 0]) ?_ 0 _ rfl; (with_reducible repeat (first | apply blk_drewN | apply blk_drew | apply blk_alloc)); exact BK241.out) Try.underlying31 rfl (by kernel_rfl) (.cell gb242 31 #[.bool false, .int .i64 0, .int .i64 0, .int .i64 0] (0, 0) _ rfl (by (with_reducible repeat (first | apply blk_drewN | apply blk_drew | apply blk_alloc)); refine blk_put (cs := #[.bool false, .int .i64 0, .int .i64 0, .int .i64 0]) ?_ 3 _ rfl; (with_reducible repeat (first | apply blk_drewN | apply blk_drew | apply blk_alloc)); refine blk_put (cs := #[.bool false, .int .i64 0, .int .i64 0, .int .i64 0]) ?_ 2 _ rfl; (with_reducible repeat (first | apply blk_drewN | apply blk_drew | apply blk_alloc)); refine blk_put (cs := #[.bool false, .int .i64 0, .int .i64 0, .int .i64 0]) ?_ 1 _ rfl; (with_reducible repeat (first | apply blk_drewN | apply blk_drew | apply blk_alloc)); refine blk_put (cs := #[.bool false, .int .i64 0, .int .i64 0, .int .i64 0]) ?_ 0 _ rfl; (with_reducible repeat (first | apply blk_drewN | apply blk_drew | apply blk_alloc)); refine blk_far ?_ NB242_241.out _; (with_reducible repeat (first | apply blk_drewN | apply blk_drew | apply blk_alloc)); refine blk_far ?_ NB242_241.out _; (with_reducible repeat (first | apply blk_drewN | apply blk_drew | apply blk_alloc)); refine blk_far ?_ NB242_241.out _; (with_reducible repeat (first | apply blk_drewN | apply blk_drew | apply blk_alloc)); refine blk_far ?_ NB242_241.out _; (with_reducible repeat (first | apply blk_drewN | apply blk_drew | apply blk_alloc)); exact BK242.out) Try.underlying31 rfl (by kernel_rfl) (.tmp .nil)))) rfl ?_
  exact ⟨by first | rfl | (simp [errW_none, errW_some] <;> rfl) | (simp [*, errW_none, errW_some] <;> rfl), by repeat (first | (with_reducible first | exact HB.out | apply below_alloc | apply pw_below_drewN | apply below_drew1 | refine below_set ?_ GE240.out | refine below_set ?_ GE241.out | refine below_set ?_ GE242.out) | exact HB.out)⟩

end Go.Proofs.Ythakdhdoeejkmaa.QFnExactWithout
