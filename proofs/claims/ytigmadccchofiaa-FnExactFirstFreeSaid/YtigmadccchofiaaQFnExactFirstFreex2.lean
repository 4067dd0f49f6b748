-- Written by a program of this session (wip/myprint.py); Lean checks it.
import Derived.Test.YtigmadccchofiaaQFnExactFirstFreex0
namespace Go.Proofs.Ytigmadccchofiaa.QFnExactFirstFree
open Go.RowKit Go.Proofs.YtigmadccchofiaaW.PrintWords Go.Proofs.YtigmadccchofiaaW.PrintLast Go.Proofs.YtigmadccchofiaaW.PrintMore
open Act (put)
open List (setIfInBounds_toArray set_cons_zero set_cons_succ)
attribute [local go_sem] max2_int min2_int max_two min_two max_three min_three max_four min_four   -- for this text's walks alone
set_option linter.unusedVariables false
set_option linter.unusedSimpArgs false

attribute [local go_sem] isSome_setCell
/-! ### laws_toAddr: function 16 -/
def laws_toAddr.f (a0_0 : Bool) (a0_1 : Int) (a0_2 : Int) : Option (Bool × Int × Int) := some (a0_0, a0_1, a0_2)
set_option maxHeartbeats 8000000 in
set_option maxRecDepth 100000 in
theorem laws_toAddr.calls (a0_0 : Bool) (a0_1 : Int) (a0_2 : Int) (r1 : Bool) (r2 : Int) (r3 : Int) (w : World) (h : laws_toAddr.f a0_0 a0_1 a0_2 = some (r1, r2, r3)) :
  Calls Try.prog 16 #[.agg #[.bool a0_0, .int .i64 a0_1, .int .i64 a0_2]] w fun e w' => e = .returned (.agg #[.bool r1, .int .i64 r2, .int .i64 r3]) ∧ Below w.heap.size w w' := by
 have hu23 := Try.underlying23
 have hu26 := Try.underlying26
 have HB := Aside0.mk (Below.refl w.heap.size w)
 have H : (some (a0_0, a0_1, a0_2)) = some (r1, r2, r3) := h
 clear h
 simp only [Option.some.injEq, Prod.mk.injEq] at H
 obtain ⟨rfl, rfl, rfl⟩ := H
 go_enter Try.func16, Try.ntmps16
 go_wp2_with (first | ((with_reducible refine gate_dst (N := 1) rfl ?_); refine box_event ?hg (N := 1) ?hd (cs := #[.bool a0_0, .int .i64 a0_1, .int .i64 a0_2]) (t := 23) ?hr ?_; (case hd => rfl); (case hg => rfl); (case hr => first | (go_simp; done) | (go_simp; rfl)); intro gb101 hg w2 hbox hb; have n0_ := Aside0.mk (below_step (by repeat (first | (with_reducible first | exact HB.out | apply below_alloc | apply pw_below_drewN | apply below_drew1) | exact HB.out)) hb); have n1_ := Aside0.mk (hbox); have n2_ := Aside0.mk ((by rw [hg]; exact (below_size (by repeat (first | (with_reducible first | exact HB.out | apply below_alloc | apply pw_below_drewN | apply below_drew1) | exact HB.out))) : w.heap.size ≤ gb101)); have n3_ := Aside0.mk ((by rw [hg]; exact (below_size (by repeat (first | (with_reducible first | exact HB.out | apply below_alloc | apply pw_below_drewN | apply below_drew1) | exact HB.out))) : w.heap.size ≤ gb101)); clear HB; have HB := n0_; have BK101 := n1_; have GW101 := n2_; have GE101 := n3_; clear n0_ n1_ n2_ n3_; clear hb hbox hg) | ((with_reducible refine gate_dst (N := 2) rfl ?_); refine box_event ?hg (N := 2) ?hd (cs := #[.bool false, .int .i64 0, .int .i64 0]) (t := 26) ?hr ?_; (case hd => rfl); (case hg => rfl); (case hr => first | (go_simp; done) | (go_simp; rfl)); intro gb102 hg w3 hbox hb; have n0_ := Aside0.mk (blk_below (g := gb101) (o := .cells #[.bool a0_0, .int .i64 a0_1, .int .i64 a0_2] 23 (0, 0)) (by (with_reducible repeat (first | apply blk_drewN | apply blk_drew | apply blk_alloc)); exact BK101.out) hb); have n1_ := Aside0.mk (below_step (by repeat (first | (with_reducible first | exact HB.out | apply below_alloc | apply pw_below_drewN | apply below_drew1 | refine below_set ?_ GE101.out) | exact HB.out)) hb); have n2_ := Aside0.mk (hbox); have n3_ := Aside0.mk ((by rw [hg]; exact (below_size (by repeat (first | (with_reducible first | exact HB.out | apply below_alloc | apply pw_below_drewN | apply below_drew1 | refine below_set ?_ GE101.out) | exact HB.out))) : w.heap.size ≤ gb102)); have n4_ := Aside0.mk ((by rw [hg]; exact (below_size (by repeat (first | (with_reducible first | exact HB.out | apply below_alloc | apply pw_below_drewN | apply below_drew1 | refine below_set ?_ GE101.out) | exact HB.out))) : w.heap.size ≤ gb102)); have n5_ := Aside0.mk ((by rw [hg]; exact Nat.ne_of_lt (blk_lt (g := gb101) (o := .cells #[.bool a0_0, .int .i64 a0_1, .int .i64 a0_2] 23 (0, 0)) (by (with_reducible repeat (first | apply blk_drewN | apply blk_drew | apply blk_alloc)); exact BK101.out)) : gb101 ≠ gb102)); have n6_ := Aside0.mk ((by rw [hg]; exact Nat.ne_of_gt (blk_lt (g := gb101) (o := .cells #[.bool a0_0, .int .i64 a0_1, .int .i64 a0_2] 23 (0, 0)) (by (with_reducible repeat (first | apply blk_drewN | apply blk_drew | apply blk_alloc)); exact BK101.out)) : gb102 ≠ gb101)); clear BK101; clear HB; have BK101 := n0_; have HB := n1_; have BK102 := n2_; have GW102 := n3_; have GE102 := n4_; have NB101_102 := n5_; have NB102_101 := n6_; clear n0_ n1_ n2_ n3_ n4_ n5_ n6_; clear hb hbox hg) | ((with_reducible refine gate_dst (N := 3) rfl ?_); refine box_event ?hg (N := 3) ?hd (cs := #[.bool false, .int .i64 0, .int .i64 0]) (t := 26) ?hr ?_; (case hd => rfl); (case hg => rfl); (case hr => first | (go_simp; done) | (go_simp; rfl)); intro gb103 hg w4 hbox hb; have n0_ := Aside0.mk (blk_below (g := gb101) (o := .cells #[.bool a0_0, .int .i64 a0_1, .int .i64 a0_2] 23 (0, 0)) (by (with_reducible repeat (first | apply blk_drewN | apply blk_drew | apply blk_alloc)); exact BK101.out) hb); have n1_ := Aside0.mk (blk_below (g := gb102) (o := .cells #[.bool false, .int .i64 0, .int .i64 0] 26 (0, 0)) (by (with_reducible repeat (first | apply blk_drewN | apply blk_drew | apply blk_alloc)); exact BK102.out) hb); have n2_ := Aside0.mk (below_step (by repeat (first | (with_reducible first | exact HB.out | apply below_alloc | apply pw_below_drewN | apply below_drew1 | refine below_set ?_ GE101.out | refine below_set ?_ GE102.out) | exact HB.out)) hb); have n3_ := Aside0.mk (hbox); have n4_ := Aside0.mk ((by rw [hg]; exact (below_size (by repeat (first | (with_reducible first | exact HB.out | apply below_alloc | apply pw_below_drewN | apply below_drew1 | refine below_set ?_ GE101.out | refine below_set ?_ GE102.out) | exact HB.out))) : w.heap.size ≤ gb103)); have n5_ := Aside0.mk ((by rw [hg]; exact (below_size (by repeat (first | (with_reducible first | exact HB.out | apply below_alloc | apply pw_below_drewN | apply below_drew1 | refine below_set ?_ GE101.out | refine below_set ?_ GE102.out) | exact HB.out))) : w.heap.size ≤ gb103)); have n6_ := Aside0.mk ((by rw [hg]; exact Nat.ne_of_lt (blk_lt (g := gb101) (o := .cells #[.bool a0_0, .int .i64 a0_1, .int .i64 a0_2] 23 (0, 0)) (by (with_reducible repeat (first | apply blk_drewN | apply blk_drew | apply blk_alloc)); exact BK101.out)) : gb101 ≠ gb103)); have n7_ := Aside0.mk ((by rw [hg]; exact Nat.ne_of_gt (blk_lt (g := gb101) (o := .cells #[.bool a0_0, .int .i64 a0_1, .int .i64 a0_2] 23 (0, 0)) (by (with_reducible repeat (first | apply blk_drewN | apply blk_drew | apply blk_alloc)); exact BK101.out)) : gb103 ≠ gb101)); have n8_ := Aside0.mk ((by rw [hg]; exact Nat.ne_of_lt (blk_lt (g := gb102) (o := .cells #[.bool false, .int .i64 0, .int .i64 0] 26 (0, 0)) (by (with_reducible repeat (first | apply blk_drewN | apply blk_drew | apply blk_alloc)); exact BK102.out)) : gb102 ≠ gb103)); have n9_ := Aside0.mk ((by rw [hg]; exact Nat.ne_of_gt (blk_lt (g := gb102) (o := .cells #[.bool false, .int .i64 0, .int .i64 0] 26 (0, 0)) (by (with_reducible repeat (first | apply blk_drewN | apply blk_drew | apply blk_alloc)); exact BK102.out)) : gb103 ≠ gb102)); clear BK101; clear BK102; clear HB; have BK101 := n0_; have BK102 := n1_; have HB := n2_; have BK103 := n3_; have GW103 := n4_; have GE103 := n5_; have NB101_103 := n6_; have NB103_101 := n7_; have NB102_103 := n8_; have NB103_102 := n9_; clear n0_ n1_ n2_ n3_ n4_ n5_ n6_ n7_ n8_ n9_; clear hb hbox hg; have hnb5 := NB101_102.out; have hnc5 := NB102_101.out; have hnb6 := NB101_103.out; have hnc6 := NB103_101.out; have hcz7_0 : w4.cell? ⟨gb101, 0, none⟩ = some (.bool a0_0) := (blk_cell BK101.out 0).trans rfl; have hcz7_1 : w4.cell? ⟨gb101, 1, none⟩ = some (.int .i64 a0_1) := (blk_cell BK101.out 1).trans rfl; have hcz7_2 : w4.cell? ⟨gb101, 2, none⟩ = some (.int .i64 a0_2) := (blk_cell BK101.out 2).trans rfl; have hfz7_0 := blk_frozen BK101.out 0; have hfz7_1 := blk_frozen BK101.out 1; have hfz7_2 := blk_frozen BK101.out 2; have hnb8 := NB103_102.out; have hnc8 := NB102_103.out; have hcz9_0 : w4.cell? ⟨gb103, 0, none⟩ = some (.bool false) := (blk_cell BK103.out 0).trans rfl; have hcz9_1 : w4.cell? ⟨gb103, 1, none⟩ = some (.int .i64 0) := (blk_cell BK103.out 1).trans rfl; have hcz9_2 : w4.cell? ⟨gb103, 2, none⟩ = some (.int .i64 0) := (blk_cell BK103.out 2).trans rfl; have hfz9_0 := blk_frozen BK103.out 0; have hfz9_1 := blk_frozen BK103.out 1; have hfz9_2 := blk_frozen BK103.out 2; have hcz10_0 : w4.cell? ⟨gb102, 0, none⟩ = some (.bool false) := (blk_cell BK102.out 0).trans rfl; have hcz10_1 : w4.cell? ⟨gb102, 1, none⟩ = some (.int .i64 0) := (blk_cell BK102.out 1).trans rfl; have hcz10_2 : w4.cell? ⟨gb102, 2, none⟩ = some (.int .i64 0) := (blk_cell BK102.out 2).trans rfl; have hfz10_0 := blk_frozen BK102.out 0; have hfz10_1 := blk_frozen BK102.out 1; have hfz10_2 := blk_frozen BK102.out 2))
 refine bodyPost_ret (results_cell_row rfl _ _ gb102 26 #[.bool a0_0, .int .i64 a0_1, .int .i64 a0_2] (0, 0) _ rfl (by (with_reducible repeat (first | apply blk_drewN | apply blk_drew | apply blk_alloc)); refine blk_put (cs := #[.bool a0_0, .int .i64 a0_1, .int .i64 0]) ?_ 2 _ rfl; (with_reducible repeat (first | apply blk_drewN | apply blk_drew | apply blk_alloc)); refine blk_put (cs := #[.bool a0_0, .int .i64 0, .int .i64 0]) ?_ 1 _ rfl; (with_reducible repeat (first | apply blk_drewN | apply blk_drew | apply blk_alloc)); refine blk_put (cs := #[.bool false, .int .i64 0, .int .i64 0]) ?_ 0 _ rfl; (with_reducible repeat (first | apply blk_drewN | apply blk_drew | apply blk_alloc)); refine blk_far ?_ NB102_103.out _; (with_reducible repeat (first | apply blk_drewN | apply blk_drew | apply blk_alloc)); refine blk_far ?_ NB102_103.out _; (with_reducible repeat (first | apply blk_drewN | apply blk_drew | apply blk_alloc)); refine blk_far ?_ NB102_103.out _; (with_reducible repeat (first | apply blk_drewN | apply blk_drew | apply blk_alloc)); exact BK102.out) Try.underlying26 rfl (by kernel_rfl)) rfl ?_
 exact ⟨by first | rfl | (simp [errW_none, errW_some] <;> rfl) | (simp [*, errW_none, errW_some] <;> rfl), by repeat (first | (with_reducible first | exact HB.out | apply below_alloc | apply pw_below_drewN | apply below_drew1 | refine below_set ?_ GE101.out | refine below_set ?_ GE102.out | refine below_set ?_ GE103.out) | exact HB.out)⟩

/-! ### laws_toPrefix: function 19 -/
def laws_toPrefix.f (a0_0 : Bool) (a0_1 : Int) (a0_2 : Int) (a0_3 : Int) : Option (Bool × Int × Int × Int) := (laws_toAddr.f a0_0 a0_1 a0_2).bind fun bt107 => (some (bt107.1, bt107.2.1, bt107.2.2, a0_3))
set_option maxHeartbeats 8000000 in
set_option maxRecDepth 100000 in
theorem laws_toPrefix.calls (a0_0 : Bool) (a0_1 : Int) (a0_2 : Int) (a0_3 : Int) (r1 : Bool) (r2 : Int) (r3 : Int) (r4 : Int) (w : World) (h : laws_toPrefix.f a0_0 a0_1 a0_2 a0_3 = some (r1, r2, r3, r4)) :
  Calls Try.prog 19 #[.agg #[.bool a0_0, .int .i64 a0_1, .int .i64 a0_2, .int .i64 a0_3]] w fun e w' => e = .returned (.agg #[.bool r1, .int .i64 r2, .int .i64 r3, .int .i64 r4]) ∧ Below w.heap.size w w' := by
 have hu30 := Try.underlying30
 have hu32 := Try.underlying32
 have hu23 := Try.underlying23
 have hu26 := Try.underlying26
 have HB := Aside0.mk (Below.refl w.heap.size w)
 have H : ((laws_toAddr.f a0_0 a0_1 a0_2).bind fun bt107 => (some (bt107.1, bt107.2.1, bt107.2.2, a0_3))) = some (r1, r2, r3, r4) := h
 clear h
 replace H := Option.bind_eq_some_iff.mp H
 obtain ⟨⟨t107, t108, t109⟩, A20, H⟩ := H
 replace H : (some (t107, t108, t109, a0_3)) = some (r1, r2, r3, r4) := H
 have A2 := Aside0.mk A20
 clear A20
 simp only [Option.some.injEq, Prod.mk.injEq] at H
 obtain ⟨rfl, rfl, rfl, rfl⟩ := H
 go_enter Try.func19, Try.ntmps19
 go_wp2_with (first | ((with_reducible refine gate_dst (N := 1) rfl ?_); refine box_event ?hg (N := 1) ?hd (cs := #[.bool a0_0, .int .i64 a0_1, .int .i64 a0_2, .int .i64 a0_3]) (t := 30) ?hr ?_; (case hd => rfl); (case hg => rfl); (case hr => first | (go_simp; done) | (go_simp; rfl)); intro gb104 hg w3 hbox hb; have n0_ := Aside0.mk (below_step (by repeat (first | (with_reducible first | exact HB.out | apply below_alloc | apply pw_below_drewN | apply below_drew1) | exact HB.out)) hb); have n1_ := Aside0.mk (hbox); have n2_ := Aside0.mk ((by rw [hg]; exact (below_size (by repeat (first | (with_reducible first | exact HB.out | apply below_alloc | apply pw_below_drewN | apply below_drew1) | exact HB.out))) : w.heap.size ≤ gb104)); have n3_ := Aside0.mk ((by rw [hg]; exact (below_size (by repeat (first | (with_reducible first | exact HB.out | apply below_alloc | apply pw_below_drewN | apply below_drew1) | exact HB.out))) : w.heap.size ≤ gb104)); clear HB; have HB := n0_; have BK104 := n1_; have GW104 := n2_; have GE104 := n3_; clear n0_ n1_ n2_ n3_; clear hb hbox hg) | ((with_reducible refine gate_dst (N := 2) rfl ?_); refine box_event ?hg (N := 2) ?hd (cs := #[.bool false, .int .i64 0, .int .i64 0, .int .i64 0]) (t := 32) ?hr ?_; (case hd => rfl); (case hg => rfl); (case hr => first | (go_simp; done) | (go_simp; rfl)); intro gb105 hg w4 hbox hb; have n0_ := Aside0.mk (blk_below (g := gb104) (o := .cells #[.bool a0_0, .int .i64 a0_1, .int .i64 a0_2, .int .i64 a0_3] 30 (0, 0)) (by (with_reducible repeat (first | apply blk_drewN | apply blk_drew | apply blk_alloc)); exact BK104.out) hb); have n1_ := Aside0.mk (below_step (by repeat (first | (with_reducible first | exact HB.out | apply below_alloc | apply pw_below_drewN | apply below_drew1 | refine below_set ?_ GE104.out) | exact HB.out)) hb); have n2_ := Aside0.mk (hbox); have n3_ := Aside0.mk ((by rw [hg]; exact (below_size (by repeat (first | (with_reducible first | exact HB.out | apply below_alloc | apply pw_below_drewN | apply below_drew1 | refine below_set ?_ GE104.out) | exact HB.out))) : w.heap.size ≤ gb105)); have n4_ := Aside0.mk ((by rw [hg]; exact (below_size (by repeat (first | (with_reducible first | exact HB.out | apply below_alloc | apply pw_below_drewN | apply below_drew1 | refine below_set ?_ GE104.out) | exact HB.out))) : w.heap.size ≤ gb105)); have n5_ := Aside0.mk ((by rw [hg]; exact Nat.ne_of_lt (blk_lt (g := gb104) (o := .cells #[.bool a0_0, .int .i64 a0_1, .int .i64 a0_2, .int .i64 a0_3] 30 (0, 0)) (by (with_reducible repeat (first | apply blk_drewN | apply blk_drew | apply blk_alloc)); exact BK104.out)) : gb104 ≠ gb105)); have n6_ := Aside0.mk ((by rw [hg]; exact Nat.ne_of_gt (blk_lt (g := gb104) (o := .cells #[.bool a0_0, .int .i64 a0_1, .int .i64 a0_2, .int .i64 a0_3] 30 (0, 0)) (by (with_reducible repeat (first | apply blk_drewN | apply blk_drew | apply blk_alloc)); exact BK104.out)) : gb105 ≠ gb104)); clear BK104; clear HB; have BK104 := n0_; have HB := n1_; have BK105 := n2_; have GW105 := n3_; have GE105 := n4_; have NB104_105 := n5_; have NB105_104 := n6_; clear n0_ n1_ n2_ n3_ n4_ n5_ n6_; clear hb hbox hg) | ((with_reducible refine gate_dst (N := 3) rfl ?_); refine box_event ?hg (N := 3) ?hd (cs := #[.bool false, .int .i64 0, .int .i64 0, .int .i64 0]) (t := 32) ?hr ?_; (case hd => rfl); (case hg => rfl); (case hr => first | (go_simp; done) | (go_simp; rfl)); intro gb106 hg w5 hbox hb; have n0_ := Aside0.mk (blk_below (g := gb104) (o := .cells #[.bool a0_0, .int .i64 a0_1, .int .i64 a0_2, .int .i64 a0_3] 30 (0, 0)) (by (with_reducible repeat (first | apply blk_drewN | apply blk_drew | apply blk_alloc)); exact BK104.out) hb); have n1_ := Aside0.mk (blk_below (g := gb105) (o := .cells #[.bool false, .int .i64 0, .int .i64 0, .int .i64 0] 32 (0, 0)) (by (with_reducible repeat (first | apply blk_drewN | apply blk_drew | apply blk_alloc)); exact BK105.out) hb); have n2_ := Aside0.mk (below_step (by repeat (first | (with_reducible first | exact HB.out | apply below_alloc | apply pw_below_drewN | apply below_drew1 | refine below_set ?_ GE104.out | refine below_set ?_ GE105.out) | exact HB.out)) hb); have n3_ := Aside0.mk (hbox); have n4_ := Aside0.mk ((by rw [hg]; exact (below_size (by repeat (first | (with_reducible first | exact HB.out | apply below_alloc | apply pw_below_drewN | apply below_drew1 | refine below_set ?_ GE104.out | refine below_set ?_ GE105.out) | exact HB.out))) : w.heap.size ≤ gb106)); have n5_ := Aside0.mk ((by rw [hg]; exact (below_size (by repeat (first | (with_reducible first | exact HB.out | apply below_alloc | apply pw_below_drewN | apply below_drew1 | refine below_set ?_ GE104.out | refine below_set ?_ GE105.out) | exact HB.out))) : w.heap.size ≤ gb106)); have n6_ := Aside0.mk ((by rw [hg]; exact Nat.ne_of_lt (blk_lt (g := gb104) (o := .cells #[.bool a0_0, .int .i64 a0_1, .int .i64 a0_2, .int .i64 a0_3] 30 (0, 0)) (by (with_reducible repeat (first | apply blk_drewN | apply blk_drew | apply blk_alloc)); exact BK104.out)) : gb104 ≠ gb106)); have n7_ := Aside0.mk ((by rw [hg]; exact Nat.ne_of_gt (blk_lt (g := gb104) (o := .cells #[.bool a0_0, .int .i64 a0_1, .int .i64 a0_2, .int .i64 a0_3] 30 (0, 0)) (by (with_reducible repeat (first | apply blk_drewN | apply blk_drew | apply blk_alloc)); exact BK104.out)) : gb106 ≠ gb104)); have n8_ := Aside0.mk ((by rw [hg]; exact Nat.ne_of_lt (blk_lt (g := gb105) (o := .cells #[.bool false, .int .i64 0, .int .i64 0, .int .i64 0] 32 (0, 0)) (by (with_reducible repeat (first | apply blk_drewN | apply blk_drew | apply blk_alloc)); exact BK105.out)) : gb105 ≠ gb106)); have n9_ := Aside0.mk ((by rw [hg]; exact Nat.ne_of_gt (blk_lt (g := gb105) (o := .cells #[.bool false, .int .i64 0, .int .i64 0, .int .i64 0] 32 (0, 0)) (by (with_reducible repeat (first | apply blk_drewN | apply blk_drew | apply blk_alloc)); exact BK105.out)) : gb106 ≠ gb105)); clear BK104; clear BK105; clear HB; have BK104 := n0_; have BK105 := n1_; have HB := n2_; have BK106 := n3_; have GW106 := n4_; have GE106 := n5_; have NB104_106 := n6_; have NB106_104 := n7_; have NB105_106 := n8_; have NB106_105 := n9_; clear n0_ n1_ n2_ n3_ n4_ n5_ n6_ n7_ n8_ n9_; clear hb hbox hg; have hnb6 := NB104_105.out; have hnc6 := NB105_104.out; have hnb7 := NB104_106.out; have hnc7 := NB106_104.out; have hcz8_0 : w5.cell? ⟨gb104, 0, none⟩ = some (.bool a0_0) := (blk_cell BK104.out 0).trans rfl; have hcz8_1 : w5.cell? ⟨gb104, 1, none⟩ = some (.int .i64 a0_1) := (blk_cell BK104.out 1).trans rfl; have hcz8_2 : w5.cell? ⟨gb104, 2, none⟩ = some (.int .i64 a0_2) := (blk_cell BK104.out 2).trans rfl; have hcz8_3 : w5.cell? ⟨gb104, 3, none⟩ = some (.int .i64 a0_3) := (blk_cell BK104.out 3).trans rfl; have hfz8_0 := blk_frozen BK104.out 0; have hfz8_1 := blk_frozen BK104.out 1; have hfz8_2 := blk_frozen BK104.out 2; have hfz8_3 := blk_frozen BK104.out 3) | ((with_reducible refine gate_callee (f := 16) rfl ?_); refine goesL_ (some 6) rfl rfl Try.func16 (by kernel_rfl) rfl #[.agg #[.bool a0_0, .int .i64 a0_1, .int .i64 a0_2]] rfl (by (try simp only [List.map_toArray, List.map_cons, List.map_nil]); first | done | rfl | (simp only [List.length_drop, List.length_take]; rfl)) ?_; (with_reducible refine (laws_toAddr.calls a0_0 a0_1 a0_2 t107 t108 t109 _ A2.out).mono ?_); rintro e w9 ⟨rfl, hb⟩; refine ⟨_, rfl, ?_⟩; have n0_ := Aside0.mk (blk_below (g := gb104) (o := .cells #[.bool a0_0, .int .i64 a0_1, .int .i64 a0_2, .int .i64 a0_3] 30 (0, 0)) (by (with_reducible repeat (first | apply blk_drewN | apply blk_drew | apply blk_alloc)); exact BK104.out) hb); have n1_ := Aside0.mk (blk_below (g := gb105) (o := .cells #[.bool false, .int .i64 0, .int .i64 0, .int .i64 0] 32 (0, 0)) (by (with_reducible repeat (first | apply blk_drewN | apply blk_drew | apply blk_alloc)); exact BK105.out) hb); have n2_ := Aside0.mk (blk_below (g := gb106) (o := .cells #[.bool false, .int .i64 0, .int .i64 0, .int .i64 0] 32 (0, 0)) (by (with_reducible repeat (first | apply blk_drewN | apply blk_drew | apply blk_alloc)); exact BK106.out) hb); have n3_ := Aside0.mk (below_step (by repeat (first | (with_reducible first | exact HB.out | apply below_alloc | apply pw_below_drewN | apply below_drew1 | refine below_set ?_ GE104.out | refine below_set ?_ GE105.out | refine below_set ?_ GE106.out) | exact HB.out)) hb); clear BK104; clear BK105; clear BK106; clear HB; have BK104 := n0_; have BK105 := n1_; have BK106 := n2_; have HB := n3_; clear n0_ n1_ n2_ n3_; (try clear hb); (try clear hb2); (try clear hk); (try clear hi); have hnb10 := NB106_105.out; have hnc10 := NB105_106.out; have hcz11_0 : w9.cell? ⟨gb106, 0, none⟩ = some (.bool false) := (blk_cell BK106.out 0).trans rfl; have hcz11_1 : w9.cell? ⟨gb106, 1, none⟩ = some (.int .i64 0) := (blk_cell BK106.out 1).trans rfl; have hcz11_2 : w9.cell? ⟨gb106, 2, none⟩ = some (.int .i64 0) := (blk_cell BK106.out 2).trans rfl; have hcz11_3 : w9.cell? ⟨gb106, 3, none⟩ = some (.int .i64 0) := (blk_cell BK106.out 3).trans rfl; have hfz11_0 := blk_frozen BK106.out 0; have hfz11_1 := blk_frozen BK106.out 1; have hfz11_2 := blk_frozen BK106.out 2; have hfz11_3 := blk_frozen BK106.out 3; have hcz12_0 : w9.cell? ⟨gb104, 0, none⟩ = some (.bool a0_0) := (blk_cell BK104.out 0).trans rfl; have hcz12_1 : w9.cell? ⟨gb104, 1, none⟩ = some (.int .i64 a0_1) := (blk_cell BK104.out 1).trans rfl; have hcz12_2 : w9.cell? ⟨gb104, 2, none⟩ = some (.int .i64 a0_2) := (blk_cell BK104.out 2).trans rfl; have hcz12_3 : w9.cell? ⟨gb104, 3, none⟩ = some (.int .i64 a0_3) := (blk_cell BK104.out 3).trans rfl; have hfz12_0 := blk_frozen BK104.out 0; have hfz12_1 := blk_frozen BK104.out 1; have hfz12_2 := blk_frozen BK104.out 2; have hfz12_3 := blk_frozen BK104.out 3; have hcz13_0 : w9.cell? ⟨gb105, 0, none⟩ = some (.bool false) := (blk_cell BK105.out 0).trans rfl; have hcz13_1 : w9.cell? ⟨gb105, 1, none⟩ = some (.int .i64 0) := (blk_cell BK105.out 1).trans rfl; have hcz13_2 : w9.cell? ⟨gb105, 2, none⟩ = some (.int .i64 0) := (blk_cell BK105.out 2).trans rfl; have hcz13_3 : w9.cell? ⟨gb105, 3, none⟩ = some (.int .i64 0) := (blk_cell BK105.out 3).trans rfl; have hfz13_0 := blk_frozen BK105.out 0; have hfz13_1 := blk_frozen BK105.out 1; have hfz13_2 := blk_frozen BK105.out 2; have hfz13_3 := blk_frozen BK105.out 3))
 refine bodyPost_ret (results_cell_row rfl _ _ gb105 32 #[.bool t107, .int .i64 t108, .int .i64 t109, .int .i64 a0_3] (0, 0) _ rfl (by (with_reducible repeat (first | apply blk_drewN | apply blk_drew | apply blk_alloc)); refine blk_put (cs := #[.bool t107, .int .i64 t108, .int .i64 t109, .int .i64 0]) ?_ 3 _ rfl; (with_reducible repeat (first | apply blk_drewN | apply blk_drew | apply blk_alloc)); refine blk_put (cs := #[.bool t107, .int .i64 t108, .int .i64 0, .int .i64 0]) ?_ 2 _ rfl; (with_reducible repeat (first | apply blk_drewN | apply blk_drew | apply blk_alloc)); refine blk_put (cs := #[.bool t107, .int .i64 0, .int .i64 0, .int .i64 0]) ?_ 1 _ rfl; (with_reducible repeat (first | apply blk_drewN | apply blk_drew | apply blk_alloc)); refine blk_put (cs := #[.bool false, .int .i64 0, .int .i64 0, .int .i64 0]) ?_ 0 _ rfl; (with_reducible repeat (first | apply blk_drewN | apply blk_drew | apply blk_alloc)); refine blk_far ?_ NB105_106.out _; (with_reducible repeat (first | apply blk_drewN | apply blk_drew | apply blk_alloc)); refine blk_far ?_ NB105_106.out _; (with_reducible repeat (first | apply blk_drewN | apply blk_drew | apply blk_alloc)); refine blk_far ?_ NB105_106.out _; (with_reducible repeat (first | apply blk_drewN | apply blk_drew | apply blk_alloc)); refine blk_far ?_ NB105_106.out _; (with_reducible repeat (first | apply blk_drewN | apply blk_drew | apply blk_alloc)); exact BK105.out) Try.underlying32 rfl (by kernel_rfl)) rfl ?_
 exact ⟨by first | rfl | (simp [errW_none, errW_some] <;> rfl) | (simp [*, errW_none, errW_some] <;> rfl), by repeat (first | (with_reducible first | exact HB.out | apply below_alloc | apply pw_below_drewN | apply below_drew1 | refine below_set ?_ GE104.out | refine below_set ?_ GE105.out | refine below_set ?_ GE106.out) | exact HB.out)⟩

/-! ### laws_eqAddr: function 33 -/
def laws_eqAddr.f (a0_0 : Bool) (a0_1 : Int) (a0_2 : Int) (a1_0 : Bool) (a1_1 : Int) (a1_2 : Int) : Option (Bool) := if (a0_0 != a1_0) = true then (some false) else (if a0_1 = a1_1 then (if a0_2 = a1_2 then (some true) else (some false)) else (some false))
set_option maxHeartbeats 8000000 in
set_option maxRecDepth 100000 in
theorem laws_eqAddr.calls (a0_0 : Bool) (a0_1 : Int) (a0_2 : Int) (a1_0 : Bool) (a1_1 : Int) (a1_2 : Int) (r : Bool) (w : World) (h : laws_eqAddr.f a0_0 a0_1 a0_2 a1_0 a1_1 a1_2 = some r) :
  Calls Try.prog 33 #[.agg #[.bool a0_0, .int .i64 a0_1, .int .i64 a0_2], .agg #[.bool a1_0, .int .i64 a1_1, .int .i64 a1_2]] w fun e w' => e = .returned (.bool r) ∧ Below w.heap.size w w' := by
 have hu26 := Try.underlying26
 have HB := Aside0.mk (Below.refl w.heap.size w)
 have H : (if (a0_0 != a1_0) = true then (some false) else (if a0_1 = a1_1 then (if a0_2 = a1_2 then (some true) else (some false)) else (some false))) = some r := h
 clear h
 by_cases c3 : (a0_0 != a1_0) = true
 ·rw [if_pos c3] at H
  have c3b0 : (a0_0 != a1_0) = true := c3
  (try (have c3b1 : decide (a0_0 = a1_0) = false := by simpa using c3))
  (try (have c3b2 : (a0_0 == a1_0) = false := by simpa using c3))
  (try (have c3b3 : ¬ (a0_0 = a1_0) := by simpa using c3))
  clear c3
  obtain rfl := Option.some.inj H
  go_enter Try.func33, Try.ntmps33
  go_wp2_with (first | ((with_reducible refine gate_dst (N := 2) rfl ?_); refine box_event ?hg (N := 2) ?hd (cs := #[.bool a0_0, .int .i64 a0_1, .int .i64 a0_2]) (t := 26) ?hr ?_; (case hd => rfl); (case hg => rfl); (case hr => first | (go_simp; done) | (go_simp; rfl)); intro gb110 hg w4 hbox hb; have n0_ := Aside0.mk (below_step (by repeat (first | (with_reducible first | exact HB.out | apply below_alloc | apply pw_below_drewN | apply below_drew1) | exact HB.out)) hb); have n1_ := Aside0.mk (hbox); have n2_ := Aside0.mk ((by rw [hg]; exact (below_size (by repeat (first | (with_reducible first | exact HB.out | apply below_alloc | apply pw_below_drewN | apply below_drew1) | exact HB.out))) : w.heap.size ≤ gb110)); have n3_ := Aside0.mk ((by rw [hg]; exact (below_size (by repeat (first | (with_reducible first | exact HB.out | apply below_alloc | apply pw_below_drewN | apply below_drew1) | exact HB.out))) : w.heap.size ≤ gb110)); clear HB; have HB := n0_; have BK110 := n1_; have GW110 := n2_; have GE110 := n3_; clear n0_ n1_ n2_ n3_; clear hb hbox hg) | ((with_reducible refine gate_dst (N := 3) rfl ?_); refine box_event ?hg (N := 3) ?hd (cs := #[.bool a1_0, .int .i64 a1_1, .int .i64 a1_2]) (t := 26) ?hr ?_; (case hd => rfl); (case hg => rfl); (case hr => first | (go_simp; done) | (go_simp; rfl)); intro gb111 hg w5 hbox hb; have n0_ := Aside0.mk (blk_below (g := gb110) (o := .cells #[.bool a0_0, .int .i64 a0_1, .int .i64 a0_2] 26 (0, 0)) (by (with_reducible repeat (first | apply blk_drewN | apply blk_drew | apply blk_alloc)); exact BK110.out) hb); have n1_ := Aside0.mk (below_step (by repeat (first | (with_reducible first | exact HB.out | apply below_alloc | apply pw_below_drewN | apply below_drew1 | refine below_set ?_ GE110.out) | exact HB.out)) hb); have n2_ := Aside0.mk (hbox); have n3_ := Aside0.mk ((by rw [hg]; exact (below_size (by repeat (first | (with_reducible first | exact HB.out | apply below_alloc | apply pw_below_drewN | apply below_drew1 | refine below_set ?_ GE110.out) | exact HB.out))) : w.heap.size ≤ gb111)); have n4_ := Aside0.mk ((by rw [hg]; exact (below_size (by repeat (first | (with_reducible first | exact HB.out | apply below_alloc | apply pw_below_drewN | apply below_drew1 | refine below_set ?_ GE110.out) | exact HB.out))) : w.heap.size ≤ gb111)); have n5_ := Aside0.mk ((by rw [hg]; exact Nat.ne_of_lt (blk_lt (g := gb110) (o := .cells #[.bool a0_0, .int .i64 a0_1, .int .i64 a0_2] 26 (0, 0)) (by (with_reducible repeat (first | apply blk_drewN | apply blk_drew | apply blk_alloc)); exact BK110.out)) : gb110 ≠ gb111)); have n6_ := Aside0.mk ((by rw [hg]; exact Nat.ne_of_gt (blk_lt (g := gb110) (o := .cells #[.bool a0_0, .int .i64 a0_1, .int .i64 a0_2] 26 (0, 0)) (by (with_reducible repeat (first | apply blk_drewN | apply blk_drew | apply blk_alloc)); exact BK110.out)) : gb111 ≠ gb110)); clear BK110; clear HB; have BK110 := n0_; have HB := n1_; have BK111 := n2_; have GW111 := n3_; have GE111 := n4_; have NB110_111 := n5_; have NB111_110 := n6_; clear n0_ n1_ n2_ n3_ n4_ n5_ n6_; clear hb hbox hg; have hnb6 := NB110_111.out; have hnc6 := NB111_110.out; have hcz7_0 : w5.cell? ⟨gb110, 0, none⟩ = some (.bool a0_0) := (blk_cell BK110.out 0).trans rfl; have hcz7_1 : w5.cell? ⟨gb110, 1, none⟩ = some (.int .i64 a0_1) := (blk_cell BK110.out 1).trans rfl; have hcz7_2 : w5.cell? ⟨gb110, 2, none⟩ = some (.int .i64 a0_2) := (blk_cell BK110.out 2).trans rfl; have hfz7_0 := blk_frozen BK110.out 0; have hfz7_1 := blk_frozen BK110.out 1; have hfz7_2 := blk_frozen BK110.out 2; have hcz8_0 : w5.cell? ⟨gb111, 0, none⟩ = some (.bool a1_0) := (blk_cell BK111.out 0).trans rfl; have hcz8_1 : w5.cell? ⟨gb111, 1, none⟩ = some (.int .i64 a1_1) := (blk_cell BK111.out 1).trans rfl; have hcz8_2 : w5.cell? ⟨gb111, 2, none⟩ = some (.int .i64 a1_2) := (blk_cell BK111.out 2).trans rfl; have hfz8_0 := blk_frozen BK111.out 0; have hfz8_1 := blk_frozen BK111.out 1; have hfz8_2 := blk_frozen BK111.out 2))
  go_ret
  exact ⟨by first | rfl | (simp [errW_none, errW_some] <;> rfl) | (simp [*, errW_none, errW_some] <;> rfl), by repeat (first | (with_reducible first | exact HB.out | apply below_alloc | apply pw_below_drewN | apply below_drew1 | refine below_set ?_ GE110.out | refine below_set ?_ GE111.out) | exact HB.out)⟩
 ·rw [if_neg c3] at H
  have c3b0 : (a0_0 != a1_0) = false := by simpa using c3
  (try (have c3b1 : decide (a0_0 = a1_0) = true := by simpa using c3))
  (try (have c3b2 : (a0_0 == a1_0) = true := by simpa using c3))
  clear c3
  by_cases c9 : a0_1 = a1_1
  ·rw [if_pos c9] at H
   have c9b0 : (a0_1 == a1_1) = true := beq_iff_eq.mpr c9
   have c9b1 : (a0_1 != a1_1) = false := bne_eq_false_iff_eq.mpr c9
   clear c9
   by_cases c10 : a0_2 = a1_2
   ·rw [if_pos c10] at H
    have c10b0 : (a0_2 == a1_2) = true := beq_iff_eq.mpr c10
    have c10b1 : (a0_2 != a1_2) = false := bne_eq_false_iff_eq.mpr c10
    clear c10
    obtain rfl := Option.some.inj H
    go_enter Try.func33, Try.ntmps33
    go_wp2_with (first | ((with_reducible refine gate_dst (N := 2) rfl ?_); refine box_event ?hg (N := 2) ?hd (cs := #[.bool a0_0, .int .i64 a0_1, .int .i64 a0_2]) (t := 26) ?hr ?_; (case hd => rfl); (case hg => rfl); (case hr => first | (go_simp; done) | (go_simp; rfl)); intro gb110 hg w11 hbox hb; have n0_ := Aside0.mk (below_step (by repeat (first | (with_reducible first | exact HB.out | apply below_alloc | apply pw_below_drewN | apply below_drew1) | exact HB.out)) hb); have n1_ := Aside0.mk (hbox); have n2_ := Aside0.mk ((by rw [hg]; exact (below_size (by repeat (first | (with_reducible first | exact HB.out | apply below_alloc | apply pw_below_drewN | apply below_drew1) | exact HB.out))) : w.heap.size ≤ gb110)); have n3_ := Aside0.mk ((by rw [hg]; exact (below_size (by repeat (first | (with_reducible first | exact HB.out | apply below_alloc | apply pw_below_drewN | apply below_drew1) | exact HB.out))) : w.heap.size ≤ gb110)); clear HB; have HB := n0_; have BK110 := n1_; have GW110 := n2_; have GE110 := n3_; clear n0_ n1_ n2_ n3_; clear hb hbox hg) | ((with_reducible refine gate_dst (N := 3) rfl ?_); refine box_event ?hg (N := 3) ?hd (cs := #[.bool a1_0, .int .i64 a1_1, .int .i64 a1_2]) (t := 26) ?hr ?_; (case hd => rfl); (case hg => rfl); (case hr => first | (go_simp; done) | (go_simp; rfl)); intro gb111 hg w12 hbox hb; have n0_ := Aside0.mk (blk_below (g := gb110) (o := .cells #[.bool a0_0, .int .i64 a0_1, .int .i64 a0_2] 26 (0, 0)) (by (with_reducible repeat (first | apply blk_drewN | apply blk_drew | apply blk_alloc)); exact BK110.out) hb); have n1_ := Aside0.mk (below_step (by repeat (first | (with_reducible first | exact HB.out | apply below_alloc | apply pw_below_drewN | apply below_drew1 | refine below_set ?_ GE110.out) | exact HB.out)) hb); have n2_ := Aside0.mk (hbox); have n3_ := Aside0.mk ((by rw [hg]; exact (below_size (by repeat (first | (with_reducible first | exact HB.out | apply below_alloc | apply pw_below_drewN | apply below_drew1 | refine below_set ?_ GE110.out) | exact HB.out))) : w.heap.size ≤ gb111)); have n4_ := Aside0.mk ((by rw [hg]; exact (below_size (by repeat (first | (with_reducible first | exact HB.out | apply below_alloc | apply pw_below_drewN | apply below_drew1 | refine below_set ?_ GE110.out) | exact HB.out))) : w.heap.size ≤ gb111)); have n5_ := Aside0.mk ((by rw [hg]; exact Nat.ne_of_lt (blk_lt (g := gb110) (o := .cells #[.bool a0_0, .int .i64 a0_1, .int .i64 a0_2] 26 (0, 0)) (by (with_reducible repeat (first | apply blk_drewN | apply blk_drew | apply blk_alloc)); exact BK110.out)) : gb110 ≠ gb111)); have n6_ := Aside0.mk ((by rw [hg]; exact Nat.ne_of_gt (blk_lt (g := gb110) (o := .cells #[.bool a0_0, .int .i64 a0_1, .int .i64 a0_2] 26 (0, 0)) (by (with_reducible repeat (first | apply blk_drewN | apply blk_drew | apply blk_alloc)); exact BK110.out)) : gb111 ≠ gb110)); clear BK110; clear HB; have BK110 := n0_; have HB := n1_; have BK111 := n2_; have GW111 := n3_; have GE111 := n4_; have NB110_111 := n5_; have NB111_110 := n6_; clear n0_ n1_ n2_ n3_ n4_ n5_ n6_; clear hb hbox hg; have hnb13 := NB110_111.out; have hnc13 := NB111_110.out; have hcz14_0 : w12.cell? ⟨gb110, 0, none⟩ = some (.bool a0_0) := (blk_cell BK110.out 0).trans rfl; have hcz14_1 : w12.cell? ⟨gb110, 1, none⟩ = some (.int .i64 a0_1) := (blk_cell BK110.out 1).trans rfl; have hcz14_2 : w12.cell? ⟨gb110, 2, none⟩ = some (.int .i64 a0_2) := (blk_cell BK110.out 2).trans rfl; have hfz14_0 := blk_frozen BK110.out 0; have hfz14_1 := blk_frozen BK110.out 1; have hfz14_2 := blk_frozen BK110.out 2; have hcz15_0 : w12.cell? ⟨gb111, 0, none⟩ = some (.bool a1_0) := (blk_cell BK111.out 0).trans rfl; have hcz15_1 : w12.cell? ⟨gb111, 1, none⟩ = some (.int .i64 a1_1) := (blk_cell BK111.out 1).trans rfl; have hcz15_2 : w12.cell? ⟨gb111, 2, none⟩ = some (.int .i64 a1_2) := (blk_cell BK111.out 2).trans rfl; have hfz15_0 := blk_frozen BK111.out 0; have hfz15_1 := blk_frozen BK111.out 1; have hfz15_2 := blk_frozen BK111.out 2))
    go_ret
    exact ⟨by first | rfl | (simp [errW_none, errW_some] <;> rfl) | (simp [*, errW_none, errW_some] <;> rfl), by repeat (first | (with_reducible first | exact HB.out | apply below_alloc | apply pw_below_drewN | apply below_drew1 | refine below_set ?_ GE110.out | refine below_set ?_ GE111.out) | exact HB.out)⟩
   ·rw [if_neg c10] at H
    have c10b0 : (a0_2 == a1_2) = false := beq_eq_false_iff_ne.mpr c10
    have c10b1 : (a0_2 != a1_2) = true := bne_iff_ne.mpr c10
    obtain rfl := Option.some.inj H
    go_enter Try.func33, Try.ntmps33
    go_wp2_with (first | ((with_reducible refine gate_dst (N := 2) rfl ?_); refine box_event ?hg (N := 2) ?hd (cs := #[.bool a0_0, .int .i64 a0_1, .int .i64 a0_2]) (t := 26) ?hr ?_; (case hd => rfl); (case hg => rfl); (case hr => first | (go_simp; done) | (go_simp; rfl)); intro gb110 hg w16 hbox hb; have n0_ := Aside0.mk (below_step (by repeat (first | (with_reducible first | exact HB.out | apply below_alloc | apply pw_below_drewN | apply below_drew1) | exact HB.out)) hb); have n1_ := Aside0.mk (hbox); have n2_ := Aside0.mk ((by rw [hg]; exact (below_size (by repeat (first | (with_reducible first | exact HB.out | apply below_alloc | apply pw_below_drewN | apply below_drew1) | exact HB.out))) : w.heap.size ≤ gb110)); have n3_ := Aside0.mk ((by rw [hg]; exact (below_size (by repeat (first | (with_reducible first | exact HB.out | apply below_alloc | apply pw_below_drewN | apply below_drew1) | exact HB.out))) : w.heap.size ≤ gb110)); clear HB; have HB := n0_; have BK110 := n1_; have GW110 := n2_; have GE110 := n3_; clear n0_ n1_ n2_ n3_; clear hb hbox hg) | ((with_reducible refine gate_dst (N := 3) rfl ?_); refine box_event ?hg (N := 3) ?hd (cs := #[.bool a1_0, .int .i64 a1_1, .int .i64 a1_2]) (t := 26) ?hr ?_; (case hd => rfl); (case hg => rfl); (case hr => first | (go_simp; done) | (go_simp; rfl)); intro gb111 hg w17 hbox hb; have n0_ := Aside0.mk (blk_below (g := gb110) (o := .cells #[.bool a0_0, .int .i64 a0_1, .int .i64 a0_2] 26 (0, 0)) (by (with_reducible repeat (first | apply blk_drewN | apply blk_drew | apply blk_alloc)); exact BK110.out) hb); have n1_ := Aside0.mk (below_step (by repeat (first | (with_reducible first | exact HB.out | apply below_alloc | apply pw_below_drewN | apply below_drew1 | refine below_set ?_ GE110.out) | exact HB.out)) hb); have n2_ := Aside0.mk (hbox); have n3_ := Aside0.mk ((by rw [hg]; exact (below_size (by repeat (first | (with_reducible first | exact HB.out | apply below_alloc | apply pw_below_drewN | apply below_drew1 | refine below_set ?_ GE110.out) | exact HB.out))) : w.heap.size ≤ gb111)); have n4_ := Aside0.mk ((by rw [hg]; exact (below_size (by repeat (first | (with_reducible first | exact HB.out | apply below_alloc | apply pw_below_drewN | apply below_drew1 | refine below_set ?_ GE110.out) | exact HB.out))) : w.heap.size ≤ gb111)); have n5_ := Aside0.mk ((by rw [hg]; exact Nat.ne_of_lt (blk_lt (g := gb110) (o := .cells #[.bool a0_0, .int .i64 a0_1, .int .i64 a0_2] 26 (0, 0)) (by (with_reducible repeat (first | apply blk_drewN | apply blk_drew | apply blk_alloc)); exact BK110.out)) : gb110 ≠ gb111)); have n6_ := Aside0.mk ((by rw [hg]; exact Nat.ne_of_gt (blk_lt (g := gb110) (o := .cells #[.bool a0_0, .int .i64 a0_1, .int .i64 a0_2] 26 (0, 0)) (by (with_reducible repeat (first | apply blk_drewN | apply blk_drew | apply blk_alloc)); exact BK110.out)) : gb111 ≠ gb110)); clear BK110; clear HB; have BK110 := n0_; have HB := n1_; have BK111 := n2_; have GW111 := n3_; have GE111 := n4_; have NB110_111 := n5_; have NB111_110 := n6_; clear n0_ n1_ n2_ n3_ n4_ n5_ n6_; clear hb hbox hg; have hnb18 := NB110_111.out; have hnc18 := NB111_110.out; have hcz19_0 : w17.cell? ⟨gb110, 0, none⟩ = some (.bool a0_0) := (blk_cell BK110.out 0).trans rfl; have hcz19_1 : w17.cell? ⟨gb110, 1, none⟩ = some (.int .i64 a0_1) := (blk_cell BK110.out 1).trans rfl; have hcz19_2 : w17.cell? ⟨gb110, 2, none⟩ = some (.int .i64 a0_2) := (blk_cell BK110.out 2).trans rfl; have hfz19_0 := blk_frozen BK110.out 0; have hfz19_1 := blk_frozen BK110.out 1; have hfz19_2 := blk_frozen BK110.out 2; have hcz20_0 : w17.cell? ⟨gb111, 0, none⟩ = some (.bool a1_0) := (blk_cell BK111.out 0).trans rfl; have hcz20_1 : w17.cell? ⟨gb111, 1, none⟩ = some (.int .i64 a1_1) := (blk_cell BK111.out 1).trans rfl; have hcz20_2 : w17.cell? ⟨gb111, 2, none⟩ = some (.int .i64 a1_2) := (blk_cell BK111.out 2).trans rfl; have hfz20_0 := blk_frozen BK111.out 0; have hfz20_1 := blk_frozen BK111.out 1; have hfz20_2 := blk_frozen BK111.out 2))
    go_ret
    exact ⟨by first | rfl | (simp [errW_none, errW_some] <;> rfl) | (simp [*, errW_none, errW_some] <;> rfl), by repeat (first | (with_reducible first | exact HB.out | apply below_alloc | apply pw_below_drewN | apply below_drew1 | refine below_set ?_ GE110.out | refine below_set ?_ GE111.out) | exact HB.out)⟩
  ·rw [if_neg c9] at H
   have c9b0 : (a0_1 == a1_1) = false := beq_eq_false_iff_ne.mpr c9
   have c9b1 : (a0_1 != a1_1) = true := bne_iff_ne.mpr c9
   obtain rfl := Option.some.inj H
   go_enter Try.func33, Try.ntmps33
   go_wp2_with (first | ((with_reducible refine gate_dst (N := 2) rfl ?_); refine box_event ?hg (N := 2) ?hd (cs := #[.bool a0_0, .int .i64 a0_1, .int .i64 a0_2]) (t := 26) ?hr ?_; (case hd => rfl); (case hg => rfl); (case hr => first | (go_simp; done) | (go_simp; rfl)); intro gb110 hg w21 hbox hb; have n0_ := Aside0.mk (below_step (by repeat (first | (with_reducible first | exact HB.out | apply below_alloc | apply pw_below_drewN | apply below_drew1) | exact HB.out)) hb); have n1_ := Aside0.mk (hbox); have n2_ := Aside0.mk ((by rw [hg]; exact (below_size (by repeat (first | (with_reducible first | exact HB.out | apply below_alloc | apply pw_below_drewN | apply below_drew1) | exact HB.out))) : w.heap.size ≤ gb110)); have n3_ := Aside0.mk ((by rw [hg]; exact (below_size (by repeat (first | (with_reducible first | exact HB.out | apply below_alloc | apply pw_below_drewN | apply below_drew1) | exact HB.out))) : w.heap.size ≤ gb110)); clear HB; have HB := n0_; have BK110 := n1_; have GW110 := n2_; have GE110 := n3_; clear n0_ n1_ n2_ n3_; clear hb hbox hg) | ((with_reducible refine gate_dst (N := 3) rfl ?_); refine box_event ?hg (N := 3) ?hd (cs := #[.bool a1_0, .int .i64 a1_1, .int .i64 a1_2]) (t := 26) ?hr ?_; (case hd => rfl); (case hg => rfl); (case hr => first | (go_simp; done) | (go_simp; rfl)); intro gb111 hg w22 hbox hb; have n0_ := Aside0.mk (blk_below (g := gb110) (o := .cells #[.bool a0_0, .int .i64 a0_1, .int .i64 a0_2] 26 (0, 0)) (by (with_reducible repeat (first | apply blk_drewN | apply blk_drew | apply blk_alloc)); exact BK110.out) hb); have n1_ := Aside0.mk (below_step (by repeat (first | (with_reducible first | exact HB.out | apply below_alloc | apply pw_below_drewN | apply below_drew1 | refine below_set ?_ GE110.out) | exact HB.out)) hb); have n2_ := Aside0.mk (hbox); have n3_ := Aside0.mk ((by rw [hg]; exact (below_size (by repeat (first | (with_reducible first | exact HB.out | apply below_alloc | apply pw_below_drewN | apply below_drew1 | refine below_set ?_ GE110.out) | exact HB.out))) : w.heap.size ≤ gb111)); have n4_ := Aside0.mk ((by rw [hg]; exact (below_size (by repeat (first | (with_reducible first | exact HB.out | apply below_alloc | apply pw_below_drewN | apply below_drew1 | refine below_set ?_ GE110.out) | exact HB.out))) : w.heap.size ≤ gb111)); have n5_ := Aside0.mk ((by rw [hg]; exact Nat.ne_of_lt (blk_lt (g := gb110) (o := .cells #[.bool a0_0, .int .i64 a0_1, .int .i64 a0_2] 26 (0, 0)) (by (with_reducible repeat (first | apply blk_drewN | apply blk_drew | apply blk_alloc)); exact BK110.out)) : gb110 ≠ gb111)); have n6_ := Aside0.mk ((by rw [hg]; exact Nat.ne_of_gt (blk_lt (g := gb110) (o := .cells #[.bool a0_0, .int .i64 a0_1, .int .i64 a0_2] 26 (0, 0)) (by (with_reducible repeat (first | apply blk_drewN | apply blk_drew | apply blk_alloc)); exact BK110.out)) : gb111 ≠ gb110)); clear BK110; clear HB; have BK110 := n0_; have HB := n1_; have BK111 := n2_; have GW111 := n3_; have GE111 := n4_; have NB110_111 := n5_; have NB111_110 := n6_; clear n0_ n1_ n2_ n3_ n4_ n5_ n6_; clear hb hbox hg; have hnb23 := NB110_111.out; have hnc23 := NB111_110.out; have hcz24_0 : w22.cell? ⟨gb110, 0, none⟩ = some (.bool a0_0) := (blk_cell BK110.out 0).trans rfl; have hcz24_1 : w22.cell? ⟨gb110, 1, none⟩ = some (.int .i64 a0_1) := (blk_cell BK110.out 1).trans rfl; have hcz24_2 : w22.cell? ⟨gb110, 2, none⟩ = some (.int .i64 a0_2) := (blk_cell BK110.out 2).trans rfl; have hfz24_0 := blk_frozen BK110.out 0; have hfz24_1 := blk_frozen BK110.out 1; have hfz24_2 := blk_frozen BK110.out 2; have hcz25_0 : w22.cell? ⟨gb111, 0, none⟩ = some (.bool a1_0) := (blk_cell BK111.out 0).trans rfl; have hcz25_1 : w22.cell? ⟨gb111, 1, none⟩ = some (.int .i64 a1_1) := (blk_cell BK111.out 1).trans rfl; have hcz25_2 : w22.cell? ⟨gb111, 2, none⟩ = some (.int .i64 a1_2) := (blk_cell BK111.out 2).trans rfl; have hfz25_0 := blk_frozen BK111.out 0; have hfz25_1 := blk_frozen BK111.out 1; have hfz25_2 := blk_frozen BK111.out 2))
   go_ret
   exact ⟨by first | rfl | (simp [errW_none, errW_some] <;> rfl) | (simp [*, errW_none, errW_some] <;> rfl), by repeat (first | (with_reducible first | exact HB.out | apply below_alloc | apply pw_below_drewN | apply below_drew1 | refine below_set ?_ GE110.out | refine below_set ?_ GE111.out) | exact HB.out)⟩

/-! ### laws_eqPrefix: function 21 -/
def laws_eqPrefix.f (a0_0 : Bool) (a0_1 : Int) (a0_2 : Int) (a0_3 : Int) (a1_0 : Bool) (a1_1 : Int) (a1_2 : Int) (a1_3 : Int) : Option (Bool) := (laws_eqAddr.f a0_0 a0_1 a0_2 a1_0 a1_1 a1_2).bind fun t114 => (if t114 = true then (if a0_3 = a1_3 then (some true) else (some false)) else (some false))
set_option maxHeartbeats 8000000 in
set_option maxRecDepth 100000 in
theorem laws_eqPrefix.calls (a0_0 : Bool) (a0_1 : Int) (a0_2 : Int) (a0_3 : Int) (a1_0 : Bool) (a1_1 : Int) (a1_2 : Int) (a1_3 : Int) (r : Bool) (w : World) (h : laws_eqPrefix.f a0_0 a0_1 a0_2 a0_3 a1_0 a1_1 a1_2 a1_3 = some r) :
  Calls Try.prog 21 #[.agg #[.bool a0_0, .int .i64 a0_1, .int .i64 a0_2, .int .i64 a0_3], .agg #[.bool a1_0, .int .i64 a1_1, .int .i64 a1_2, .int .i64 a1_3]] w fun e w' => e = .returned (.bool r) ∧ Below w.heap.size w w' := by
 have hu32 := Try.underlying32
 have hu26 := Try.underlying26
 have HB := Aside0.mk (Below.refl w.heap.size w)
 have H : ((laws_eqAddr.f a0_0 a0_1 a0_2 a1_0 a1_1 a1_2).bind fun t114 => (if t114 = true then (if a0_3 = a1_3 then (some true) else (some false)) else (some false))) = some r := h
 clear h
 replace H := Option.bind_eq_some_iff.mp H
 obtain ⟨t114, A30, H⟩ := H
 replace H : (if t114 = true then (if a0_3 = a1_3 then (some true) else (some false)) else (some false)) = some r := H
 have A3 := Aside0.mk A30
 clear A30
 by_cases c4 : t114 = true
 ·subst c4
  have H1 : (if a0_3 = a1_3 then (some true) else (some false)) = some r := by rw [if_pos rfl] at H; exact H
  clear H
  have H := H1
  clear H1
  by_cases c5 : a0_3 = a1_3
  ·rw [if_pos c5] at H
   have c5b0 : (a0_3 == a1_3) = true := beq_iff_eq.mpr c5
   have c5b1 : (a0_3 != a1_3) = false := bne_eq_false_iff_eq.mpr c5
   clear c5
   obtain rfl := Option.some.inj H
   go_enter Try.func21, Try.ntmps21
   go_wp2_with (first | ((with_reducible refine gate_dst (N := 2) rfl ?_); refine box_event ?hg (N := 2) ?hd (cs := #[.bool a0_0, .int .i64 a0_1, .int .i64 a0_2, .int .i64 a0_3]) (t := 32) ?hr ?_; (case hd => rfl); (case hg => rfl); (case hr => first | (go_simp; done) | (go_simp; rfl)); intro gb112 hg w6 hbox hb; have n0_ := Aside0.mk (below_step (by repeat (first | (with_reducible first | exact HB.out | apply below_alloc | apply pw_below_drewN | apply below_drew1) | exact HB.out)) hb); have n1_ := Aside0.mk (hbox); have n2_ := Aside0.mk ((by rw [hg]; exact (below_size (by repeat (first | (with_reducible first | exact HB.out | apply below_alloc | apply pw_below_drewN | apply below_drew1) | exact HB.out))) : w.heap.size ≤ gb112)); have n3_ := Aside0.mk ((by rw [hg]; exact (below_size (by repeat (first | (with_reducible first | exact HB.out | apply below_alloc | apply pw_below_drewN | apply below_drew1) | exact HB.out))) : w.heap.size ≤ gb112)); clear HB; have HB := n0_; have BK112 := n1_; have GW112 := n2_; have GE112 := n3_; clear n0_ n1_ n2_ n3_; clear hb hbox hg) | ((with_reducible refine gate_dst (N := 3) rfl ?_); refine box_event ?hg (N := 3) ?hd (cs := #[.bool a1_0, .int .i64 a1_1, .int .i64 a1_2, .int .i64 a1_3]) (t := 32) ?hr ?_; (case hd => rfl); (case hg => rfl); (case hr => first | (go_simp; done) | (go_simp; rfl)); intro gb113 hg w7 hbox hb; have n0_ := Aside0.mk (blk_below (g := gb112) (o := .cells #[.bool a0_0, .int .i64 a0_1, .int .i64 a0_2, .int .i64 a0_3] 32 (0, 0)) (by (with_reducible repeat (first | apply blk_drewN | apply blk_drew | apply blk_alloc)); exact BK112.out) hb); have n1_ := Aside0.mk (below_step (by repeat (first | (with_reducible first | exact HB.out | apply below_alloc | apply pw_below_drewN | apply below_drew1 | refine below_set ?_ GE112.out) | exact HB.out)) hb); have n2_ := Aside0.mk (hbox); have n3_ := Aside0.mk ((by rw [hg]; exact (below_size (by repeat (first | (with_reducible first | exact HB.out | apply below_alloc | apply pw_below_drewN | apply below_drew1 | refine below_set ?_ GE112.out) | exact HB.out))) : w.heap.size ≤ gb113)); have n4_ := Aside0.mk ((by rw [hg]; exact (below_size (by repeat (first | (with_reducible first | exact HB.out | apply below_alloc | apply pw_below_drewN | apply below_drew1 | refine below_set ?_ GE112.out) | exact HB.out))) : w.heap.size ≤ gb113)); have n5_ := Aside0.mk ((by rw [hg]; exact Nat.ne_of_lt (blk_lt (g := gb112) (o := .cells #[.bool a0_0, .int .i64 a0_1, .int .i64 a0_2, .int .i64 a0_3] 32 (0, 0)) (by (with_reducible repeat (first | apply blk_drewN | apply blk_drew | apply blk_alloc)); exact BK112.out)) : gb112 ≠ gb113)); have n6_ := Aside0.mk ((by rw [hg]; exact Nat.ne_of_gt (blk_lt (g := gb112) (o := .cells #[.bool a0_0, .int .i64 a0_1, .int .i64 a0_2, .int .i64 a0_3] 32 (0, 0)) (by (with_reducible repeat (first | apply blk_drewN | apply blk_drew | apply blk_alloc)); exact BK112.out)) : gb113 ≠ gb112)); clear BK112; clear HB; have BK112 := n0_; have HB := n1_; have BK113 := n2_; have GW113 := n3_; have GE113 := n4_; have NB112_113 := n5_; have NB113_112 := n6_; clear n0_ n1_ n2_ n3_ n4_ n5_ n6_; clear hb hbox hg; have hnb8 := NB112_113.out; have hnc8 := NB113_112.out; have hcz9_0 : w7.cell? ⟨gb112, 0, none⟩ = some (.bool a0_0) := (blk_cell BK112.out 0).trans rfl; have hcz9_1 : w7.cell? ⟨gb112, 1, none⟩ = some (.int .i64 a0_1) := (blk_cell BK112.out 1).trans rfl; have hcz9_2 : w7.cell? ⟨gb112, 2, none⟩ = some (.int .i64 a0_2) := (blk_cell BK112.out 2).trans rfl; have hcz9_3 : w7.cell? ⟨gb112, 3, none⟩ = some (.int .i64 a0_3) := (blk_cell BK112.out 3).trans rfl; have hfz9_0 := blk_frozen BK112.out 0; have hfz9_1 := blk_frozen BK112.out 1; have hfz9_2 := blk_frozen BK112.out 2; have hfz9_3 := blk_frozen BK112.out 3; have hcz10_0 : w7.cell? ⟨gb113, 0, none⟩ = some (.bool a1_0) := (blk_cell BK113.out 0).trans rfl; have hcz10_1 : w7.cell? ⟨gb113, 1, none⟩ = some (.int .i64 a1_1) := (blk_cell BK113.out 1).trans rfl; have hcz10_2 : w7.cell? ⟨gb113, 2, none⟩ = some (.int .i64 a1_2) := (blk_cell BK113.out 2).trans rfl; have hcz10_3 : w7.cell? ⟨gb113, 3, none⟩ = some (.int .i64 a1_3) := (blk_cell BK113.out 3).trans rfl; have hfz10_0 := blk_frozen BK113.out 0; have hfz10_1 := blk_frozen BK113.out 1; have hfz10_2 := blk_frozen BK113.out 2; have hfz10_3 := blk_frozen BK113.out 3) | ((with_reducible refine gate_callee (f := 33) rfl ?_); refine goesL_ (some 9) rfl rfl Try.func33 (by kernel_rfl) rfl #[.agg #[.bool a0_0, .int .i64 a0_1, .int .i64 a0_2], .agg #[.bool a1_0, .int .i64 a1_1, .int .i64 a1_2]] rfl (by (try simp only [List.map_toArray, List.map_cons, List.map_nil]); first | done | rfl | (simp only [List.length_drop, List.length_take]; rfl)) ?_; (with_reducible refine (laws_eqAddr.calls a0_0 a0_1 a0_2 a1_0 a1_1 a1_2 true _ A3.out).mono ?_); rintro e w11 ⟨rfl, hb⟩; refine ⟨_, rfl, ?_⟩; have n0_ := Aside0.mk (blk_below (g := gb112) (o := .cells #[.bool a0_0, .int .i64 a0_1, .int .i64 a0_2, .int .i64 a0_3] 32 (0, 0)) (by (with_reducible repeat (first | apply blk_drewN | apply blk_drew | apply blk_alloc)); exact BK112.out) hb); have n1_ := Aside0.mk (blk_below (g := gb113) (o := .cells #[.bool a1_0, .int .i64 a1_1, .int .i64 a1_2, .int .i64 a1_3] 32 (0, 0)) (by (with_reducible repeat (first | apply blk_drewN | apply blk_drew | apply blk_alloc)); exact BK113.out) hb); have n2_ := Aside0.mk (below_step (by repeat (first | (with_reducible first | exact HB.out | apply below_alloc | apply pw_below_drewN | apply below_drew1 | refine below_set ?_ GE112.out | refine below_set ?_ GE113.out) | exact HB.out)) hb); clear BK112; clear BK113; clear HB; have BK112 := n0_; have BK113 := n1_; have HB := n2_; clear n0_ n1_ n2_; (try clear hb); (try clear hb2); (try clear hk); (try clear hi); have hcz12_0 : w11.cell? ⟨gb112, 0, none⟩ = some (.bool a0_0) := (blk_cell BK112.out 0).trans rfl; have hcz12_1 : w11.cell? ⟨gb112, 1, none⟩ = some (.int .i64 a0_1) := (blk_cell BK112.out 1).trans rfl; have hcz12_2 : w11.cell? ⟨gb112, 2, none⟩ = some (.int .i64 a0_2) := (blk_cell BK112.out 2).trans rfl; have hcz12_3 : w11.cell? ⟨gb112, 3, none⟩ = some (.int .i64 a0_3) := (blk_cell BK112.out 3).trans rfl; have hfz12_0 := blk_frozen BK112.out 0; have hfz12_1 := blk_frozen BK112.out 1; have hfz12_2 := blk_frozen BK112.out 2; have hfz12_3 := blk_frozen BK112.out 3; have hcz13_0 : w11.cell? ⟨gb113, 0, none⟩ = some (.bool a1_0) := (blk_cell BK113.out 0).trans rfl; have hcz13_1 : w11.cell? ⟨gb113, 1, none⟩ = some (.int .i64 a1_1) := (blk_cell BK113.out 1).trans rfl; have hcz13_2 : w11.cell? ⟨gb113, 2, none⟩ = some (.int .i64 a1_2) := (blk_cell BK113.out 2).trans rfl; have hcz13_3 : w11.cell? ⟨gb113, 3, none⟩ = some (.int .i64 a1_3) := (blk_cell BK113.out 3).trans rfl; have hfz13_0 := blk_frozen BK113.out 0; have hfz13_1 := blk_frozen BK113.out 1; have hfz13_2 := blk_frozen BK113.out 2; have hfz13_3 := blk_frozen BK113.out 3))
   go_ret
   exact ⟨by first | rfl | (simp [errW_none, errW_some] <;> rfl) | (simp [*, errW_none, errW_some] <;> rfl), by repeat (first | (with_reducible first | exact HB.out | apply below_alloc | apply pw_below_drewN | apply below_drew1 | refine below_set ?_ GE112.out | refine below_set ?_ GE113.out) | exact HB.out)⟩
  ·rw [if_neg c5] at H
   have c5b0 : (a0_3 == a1_3) = false := beq_eq_false_iff_ne.mpr c5
   have c5b1 : (a0_3 != a1_3) = true := bne_iff_ne.mpr c5
   obtain rfl := Option.some.inj H
   go_enter Try.func21, Try.ntmps21
   go_wp2_with (first | ((with_reducible refine gate_dst (N := 2) rfl ?_); refine box_event ?hg (N := 2) ?hd (cs := #[.bool a0_0, .int .i64 a0_1, .int .i64 a0_2, .int .i64 a0_3]) (t := 32) ?hr ?_; (case hd => rfl); (case hg => rfl); (case hr => first | (go_simp; done) | (go_simp; rfl)); intro gb112 hg w14 hbox hb; have n0_ := Aside0.mk (below_step (by repeat (first | (with_reducible first | exact HB.out | apply below_alloc | apply pw_below_drewN | apply below_drew1) | exact HB.out)) hb); have n1_ := Aside0.mk (hbox); have n2_ := Aside0.mk ((by rw [hg]; exact (below_size (by repeat (first | (with_reducible first | exact HB.out | apply below_alloc | apply pw_below_drewN | apply below_drew1) | exact HB.out))) : w.heap.size ≤ gb112)); have n3_ := Aside0.mk ((by rw [hg]; exact (below_size (by repeat (first | (with_reducible first | exact HB.out | apply below_alloc | apply pw_below_drewN | apply below_drew1) | exact HB.out))) : w.heap.size ≤ gb112)); clear HB; have HB := n0_; have BK112 := n1_; have GW112 := n2_; have GE112 := n3_; clear n0_ n1_ n2_ n3_; clear hb hbox hg) | ((with_reducible refine gate_dst (N := 3) rfl ?_); refine box_event ?hg (N := 3) ?hd (cs := #[.bool a1_0, .int .i64 a1_1, .int .i64 a1_2, .int .i64 a1_3]) (t := 32) ?hr ?_; (case hd => rfl); (case hg => rfl); (case hr => first | (go_simp; done) | (go_simp; rfl)); intro gb113 hg w15 hbox hb; have n0_ := Aside0.mk (blk_below (g := gb112) (o := .cells #[.bool a0_0, .int .i64 a0_1, .int .i64 a0_2, .int .i64 a0_3] 32 (0, 0)) (by (with_reducible repeat (first | apply blk_drewN | apply blk_drew | apply blk_alloc)); exact BK112.out) hb); have n1_ := Aside0.mk (below_step (by repeat (first | (with_reducible first | exact HB.out | apply below_alloc | apply pw_below_drewN | apply below_drew1 | refine below_set ?_ GE112.out) | exact HB.out)) hb); have n2_ := Aside0.mk (hbox); have n3_ := Aside0.mk ((by rw [hg]; exact (below_size (by repeat (first | (with_reducible first | exact HB.out | apply below_alloc | apply pw_below_drewN | apply below_drew1 | refine below_set ?_ GE112.out) | exact HB.out))) : w.heap.size ≤ gb113)); have n4_ := Aside0.mk ((by rw [hg]; exact (below_size (by repeat (first | (with_reducible first | exact HB.out | apply below_alloc | apply pw_below_drewN | apply below_drew1 | refine below_set ?_ GE112.out) | exact HB.out))) : w.heap.size ≤ gb113)); have n5_ := Aside0.mk ((by rw [hg]; exact Nat.ne_of_lt (blk_lt (g := gb112) (o := .cells #[.bool a0_0, .int .i64 a0_1, .int .i64 a0_2, .int .i64 a0_3] 32 (0, 0)) (by (with_reducible repeat (first | apply blk_drewN | apply blk_drew | apply blk_alloc)); exact BK112.out)) : gb112 ≠ gb113)); have n6_ := Aside0.mk ((by rw [hg]; exact Nat.ne_of_gt (blk_lt (g := gb112) (o := .cells #[.bool a0_0, .int .i64 a0_1, .int .i64 a0_2, .int .i64 a0_3] 32 (0, 0)) (by (with_reducible repeat (first | apply blk_drewN | apply blk_drew | apply blk_alloc)); exact BK112.out)) : gb113 ≠ gb112)); clear BK112; clear HB; have BK112 := n0_; have HB := n1_; have BK113 := n2_; have GW113 := n3_; have GE113 := n4_; have NB112_113 := n5_; have NB113_112 := n6_; clear n0_ n1_ n2_ n3_ n4_ n5_ n6_; clear hb hbox hg; have hnb16 := NB112_113.out; have hnc16 := NB113_112.out; have hcz17_0 : w15.cell? ⟨gb112, 0, none⟩ = some (.bool a0_0) := (blk_cell BK112.out 0).trans rfl; have hcz17_1 : w15.cell? ⟨gb112, 1, none⟩ = some (.int .i64 a0_1) := (blk_cell BK112.out 1).trans rfl; have hcz17_2 : w15.cell? ⟨gb112, 2, none⟩ = some (.int .i64 a0_2) := (blk_cell BK112.out 2).trans rfl; have hcz17_3 : w15.cell? ⟨gb112, 3, none⟩ = some (.int .i64 a0_3) := (blk_cell BK112.out 3).trans rfl; have hfz17_0 := blk_frozen BK112.out 0; have hfz17_1 := blk_frozen BK112.out 1; have hfz17_2 := blk_frozen BK112.out 2; have hfz17_3 := blk_frozen BK112.out 3; have hcz18_0 : w15.cell? ⟨gb113, 0, none⟩ = some (.bool a1_0) := (blk_cell BK113.out 0).trans rfl; have hcz18_1 : w15.cell? ⟨gb113, 1, none⟩ = some (.int .i64 a1_1) := (blk_cell BK113.out 1).trans rfl; have hcz18_2 : w15.cell? ⟨gb113, 2, none⟩ = some (.int .i64 a1_2) := (blk_cell BK113.out 2).trans rfl; have hcz18_3 : w15.cell? ⟨gb113, 3, none⟩ = some (.int .i64 a1_3) := (blk_cell BK113.out 3).trans rfl; have hfz18_0 := blk_frozen BK113.out 0; have hfz18_1 := blk_frozen BK113.out 1; have hfz18_2 := blk_frozen BK113.out 2; have hfz18_3 := blk_frozen BK113.out 3) | ((with_reducible refine gate_callee (f := 33) rfl ?_); refine goesL_ (some 9) rfl rfl Try.func33 (by kernel_rfl) rfl #[.agg #[.bool a0_0, .int .i64 a0_1, .int .i64 a0_2], .agg #[.bool a1_0, .int .i64 a1_1, .int .i64 a1_2]] rfl (by (try simp only [List.map_toArray, List.map_cons, List.map_nil]); first | done | rfl | (simp only [List.length_drop, List.length_take]; rfl)) ?_; (with_reducible refine (laws_eqAddr.calls a0_0 a0_1 a0_2 a1_0 a1_1 a1_2 true _ A3.out).mono ?_); rintro e w19 ⟨rfl, hb⟩; refine ⟨_, rfl, ?_⟩; have n0_ := Aside0.mk (blk_below (g := gb112) (o := .cells #[.bool a0_0, .int .i64 a0_1, .int .i64 a0_2, .int .i64 a0_3] 32 (0, 0)) (by (with_reducible repeat (first | apply blk_drewN | apply blk_drew | apply blk_alloc)); exact BK112.out) hb); have n1_ := Aside0.mk (blk_below (g := gb113) (o := .cells #[.bool a1_0, .int .i64 a1_1, .int .i64 a1_2, .int .i64 a1_3] 32 (0, 0)) (by (with_reducible repeat (first | apply blk_drewN | apply blk_drew | apply blk_alloc)); exact BK113.out) hb); have n2_ := Aside0.mk (below_step (by repeat (first | (with_reducible first | exact HB.out | apply below_alloc | apply pw_below_drewN | apply below_drew1 | refine below_set ?_ GE112.out | refine below_set ?_ GE113.out) | exact HB.out)) hb); clear BK112; clear BK113; clear HB; have BK112 := n0_; have BK113 := n1_; have HB := n2_; clear n0_ n1_ n2_; (try clear hb); (try clear hb2); (try clear hk); (try clear hi); have hcz20_0 : w19.cell? ⟨gb112, 0, none⟩ = some (.bool a0_0) := (blk_cell BK112.out 0).trans rfl; have hcz20_1 : w19.cell? ⟨gb112, 1, none⟩ = some (.int .i64 a0_1) := (blk_cell BK112.out 1).trans rfl; have hcz20_2 : w19.cell? ⟨gb112, 2, none⟩ = some (.int .i64 a0_2) := (blk_cell BK112.out 2).trans rfl; have hcz20_3 : w19.cell? ⟨gb112, 3, none⟩ = some (.int .i64 a0_3) := (blk_cell BK112.out 3).trans rfl; have hfz20_0 := blk_frozen BK112.out 0; have hfz20_1 := blk_frozen BK112.out 1; have hfz20_2 := blk_frozen BK112.out 2; have hfz20_3 := blk_frozen BK112.out 3; have hcz21_0 : w19.cell? ⟨gb113, 0, none⟩ = some (.bool a1_0) := (blk_cell BK113.out 0).trans rfl; have hcz21_1 : w19.cell? ⟨gb113, 1, none⟩ = some (.int .i64 a1_1) := (blk_cell BK113.out 1).trans rfl; have hcz21_2 : w19.cell? ⟨gb113, 2, none⟩ = some (.int .i64 a1_2) := (blk_cell BK113.out 2).trans rfl; have hcz21_3 : w19.cell? ⟨gb113, 3, none⟩ = some (.int .i64 a1_3) := (blk_cell BK113.out 3).trans rfl; have hfz21_0 := blk_frozen BK113.out 0; have hfz21_1 := blk_frozen BK113.out 1; have hfz21_2 := blk_frozen BK113.out 2; have hfz21_3 := blk_frozen BK113.out 3))
   go_ret
   exact ⟨by first | rfl | (simp [errW_none, errW_some] <;> rfl) | (simp [*, errW_none, errW_some] <;> rfl), by repeat (first | (with_reducible first | exact HB.out | apply below_alloc | apply pw_below_drewN | apply below_drew1 | refine below_set ?_ GE112.out | refine below_set ?_ GE113.out) | exact HB.out)⟩
 ·replace c4 := Bool.eq_false_iff.mpr c4
  subst c4
  have H1 : (some false) = some r := by rw [if_neg (show ¬ (false = true) by decide)] at H; exact H
  clear H
  have H := H1
  clear H1
  obtain rfl := Option.some.inj H
  go_enter Try.func21, Try.ntmps21
  go_wp2_with (first | ((with_reducible refine gate_dst (N := 2) rfl ?_); refine box_event ?hg (N := 2) ?hd (cs := #[.bool a0_0, .int .i64 a0_1, .int .i64 a0_2, .int .i64 a0_3]) (t := 32) ?hr ?_; (case hd => rfl); (case hg => rfl); (case hr => first | (go_simp; done) | (go_simp; rfl)); intro gb112 hg w22 hbox hb; have n0_ := Aside0.mk (below_step (by repeat (first | (with_reducible first | exact HB.out | apply below_alloc | apply pw_below_drewN | apply below_drew1) | exact HB.out)) hb); have n1_ := Aside0.mk (hbox); have n2_ := Aside0.mk ((by rw [hg]; exact (below_size (by repeat (first | (with_reducible first | exact HB.out | apply below_alloc | apply pw_below_drewN | apply below_drew1) | exact HB.out))) : w.heap.size ≤ gb112)); have n3_ := Aside0.mk ((by rw [hg]; exact (below_size (by repeat (first | (with_reducible first | exact HB.out | apply below_alloc | apply pw_below_drewN | apply below_drew1) | exact HB.out))) : w.heap.size ≤ gb112)); clear HB; have HB := n0_; have BK112 := n1_; have GW112 := n2_; have GE112 := n3_; clear n0_ n1_ n2_ n3_; clear hb hbox hg) | ((with_reducible refine gate_dst (N := 3) rfl ?_); refine box_event ?hg (N := 3) ?hd (cs := #[.bool a1_0, .int .i64 a1_1, .int .i64 a1_2, .int .i64 a1_3]) (t := 32) ?hr ?_; (case hd => rfl); (case hg => rfl); (case hr => first | (go_simp; done) | (go_simp; rfl)); intro gb113 hg w23 hbox hb; have n0_ := Aside0.mk (blk_below (g := gb112) (o := .cells #[.bool a0_0, .int .i64 a0_1, .int .i64 a0_2, .int .i64 a0_3] 32 (0, 0)) (by (with_reducible repeat (first | apply blk_drewN | apply blk_drew | apply blk_alloc)); exact BK112.out) hb); have n1_ := Aside0.mk (below_step (by repeat (first | (with_reducible first | exact HB.out | apply below_alloc | apply pw_below_drewN | apply below_drew1 | refine below_set ?_ GE112.out) | exact HB.out)) hb); have n2_ := Aside0.mk (hbox); have n3_ := Aside0.mk ((by rw [hg]; exact (below_size (by repeat (first | (with_reducible first | exact HB.out | apply below_alloc | apply pw_below_drewN | apply below_drew1 | refine below_set ?_ GE112.out) | exact HB.out))) : w.heap.size ≤ gb113)); have n4_ := Aside0.mk ((by rw [hg]; exact (below_size (by repeat (first | (with_reducible first | exact HB.out | apply below_alloc | apply pw_below_drewN | apply below_drew1 | refine below_set ?_ GE112.out) | exact HB.out))) : w.heap.size ≤ gb113)); have n5_ := Aside0.mk ((by rw [hg]; exact Nat.ne_of_lt (blk_lt (g := gb112) (o := .cells #[.bool a0_0, .int .i64 a0_1, .int .i64 a0_2, .int .i64 a0_3] 32 (0, 0)) (by (with_reducible repeat (first | apply blk_drewN | apply blk_drew | apply blk_alloc)); exact BK112.out)) : gb112 ≠ gb113)); have n6_ := Aside0.mk ((by rw [hg]; exact Nat.ne_of_gt (blk_lt (g := gb112) (o := .cells #[.bool a0_0, .int .i64 a0_1, .int .i64 a0_2, .int .i64 a0_3] 32 (0, 0)) (by (with_reducible repeat (first | apply blk_drewN | apply blk_drew | apply blk_alloc)); exact BK112.out)) : gb113 ≠ gb112)); clear BK112; clear HB; have BK112 := n0_; have HB := n1_; have BK113 := n2_; have GW113 := n3_; have GE113 := n4_; have NB112_113 := n5_; have NB113_112 := n6_; clear n0_ n1_ n2_ n3_ n4_ n5_ n6_; clear hb hbox hg; have hnb24 := NB112_113.out; have hnc24 := NB113_112.out; have hcz25_0 : w23.cell? ⟨gb112, 0, none⟩ = some (.bool a0_0) := (blk_cell BK112.out 0).trans rfl; have hcz25_1 : w23.cell? ⟨gb112, 1, none⟩ = some (.int .i64 a0_1) := (blk_cell BK112.out 1).trans rfl; have hcz25_2 : w23.cell? ⟨gb112, 2, none⟩ = some (.int .i64 a0_2) := (blk_cell BK112.out 2).trans rfl; have hcz25_3 : w23.cell? ⟨gb112, 3, none⟩ = some (.int .i64 a0_3) := (blk_cell BK112.out 3).trans rfl; have hfz25_0 := blk_frozen BK112.out 0; have hfz25_1 := blk_frozen BK112.out 1; have hfz25_2 := blk_frozen BK112.out 2; have hfz25_3 := blk_frozen BK112.out 3; have hcz26_0 : w23.cell? ⟨gb113, 0, none⟩ = some (.bool a1_0) := (blk_cell BK113.out 0).trans rfl; have hcz26_1 : w23.cell? ⟨gb113, 1, none⟩ = some (.int .i64 a1_1) := (blk_cell BK113.out 1).trans rfl; have hcz26_2 : w23.cell? ⟨gb113, 2, none⟩ = some (.int .i64 a1_2) := (blk_cell BK113.out 2).trans rfl; have hcz26_3 : w23.cell? ⟨gb113, 3, none⟩ = some (.int .i64 a1_3) := (blk_cell BK113.out 3).trans rfl; have hfz26_0 := blk_frozen BK113.out 0; have hfz26_1 := blk_frozen BK113.out 1; have hfz26_2 := blk_frozen BK113.out 2; have hfz26_3 := blk_frozen BK113.out 3) | ((with_reducible refine gate_callee (f := 33) rfl ?_); refine goesL_ (some 9) rfl rfl Try.func33 (by kernel_rfl) rfl #[.agg #[.bool a0_0, .int .i64 a0_1, .int .i64 a0_2], .agg #[.bool a1_0, .int .i64 a1_1, .int .i64 a1_2]] rfl (by (try simp only [List.map_toArray, List.map_cons, List.map_nil]); first | done | rfl | (simp only [List.length_drop, List.length_take]; rfl)) ?_; (with_reducible refine (laws_eqAddr.calls a0_0 a0_1 a0_2 a1_0 a1_1 a1_2 false _ A3.out).mono ?_); rintro e w27 ⟨rfl, hb⟩; refine ⟨_, rfl, ?_⟩; have n0_ := Aside0.mk (blk_below (g := gb112) (o := .cells #[.bool a0_0, .int .i64 a0_1, .int .i64 a0_2, .int .i64 a0_3] 32 (0, 0)) (by (with_reducible repeat (first | apply blk_drewN | apply blk_drew | apply blk_alloc)); exact BK112.out) hb); have n1_ := Aside0.mk (blk_below (g := gb113) (o := .cells #[.bool a1_0, .int .i64 a1_1, .int .i64 a1_2, .int .i64 a1_3] 32 (0, 0)) (by (with_reducible repeat (first | apply blk_drewN | apply blk_drew | apply blk_alloc)); exact BK113.out) hb); have n2_ := Aside0.mk (below_step (by repeat (first | (with_reducible first | exact HB.out | apply below_alloc | apply pw_below_drewN | apply below_drew1 | refine below_set ?_ GE112.out | refine below_set ?_ GE113.out) | exact HB.out)) hb); clear BK112; clear BK113; clear HB; have BK112 := n0_; have BK113 := n1_; have HB := n2_; clear n0_ n1_ n2_; (try clear hb); (try clear hb2); (try clear hk); (try clear hi)))
  go_ret
  exact ⟨by first | rfl | (simp [errW_none, errW_some] <;> rfl) | (simp [*, errW_none, errW_some] <;> rfl), by repeat (first | (with_reducible first | exact HB.out | apply below_alloc | apply pw_below_drewN | apply below_drew1 | refine below_set ?_ GE112.out | refine below_set ?_ GE113.out) | exact HB.out)⟩

/-! ### laws_szPrefixS: function 53 -/
def laws_szPrefixS.f (l0 : List (S30)) (a1 : Int) : Option (Int) := if (wrap64 (a1 - (l0.length : Int))) < 0 then (some (-1)) else (some (wrap64 (a1 - (l0.length : Int))))
set_option maxHeartbeats 8000000 in
set_option maxRecDepth 100000 in
theorem laws_szPrefixS.calls (A0 : Option Addr) (c0 : Nat) (l0 : List (S30)) (a1 : Int) (r : Int) (w : World) (hr0 : Kd.C k30 w A0 l0.length l0) (hc0 : l0.length ≤ c0) (h : laws_szPrefixS.f l0 a1 = some r) :
  Calls Try.prog 53 #[.slice A0 l0.length c0, .int .i64 a1] w fun e w' => e = .returned (.int .i64 r) ∧ Drawn0 w w' := by
 have HR0 := Aside0.mk hr0
 have HC0 := Aside0.mk hc0
 clear hr0 hc0
 have H : (if (wrap64 (a1 - (l0.length : Int))) < 0 then (some (-1)) else (some (wrap64 (a1 - (l0.length : Int))))) = some r := h
 clear h
 by_cases c3 : (wrap64 (a1 - (l0.length : Int))) < 0
 ·rw [if_pos c3] at H
  have c3b0 : decide ((wrap64 (a1 - (l0.length : Int))) < 0) = true := decide_eq_true c3
  clear c3
  obtain rfl := Option.some.inj H
  go_enter Try.func53, Try.ntmps53
  go_wp2
  go_ret
  exact ⟨by first | rfl | (simp; done) | (simp [*]; done), by repeat (first | exact Drawn0.refl _ | apply Drawn0.step)⟩
 ·rw [if_neg c3] at H
  have c3b0 : decide ((wrap64 (a1 - (l0.length : Int))) < 0) = false := decide_eq_false c3
  clear c3
  obtain rfl := Option.some.inj H
  go_enter Try.func53, Try.ntmps53
  go_wp2
  go_ret
  exact ⟨by first | rfl | (simp; done) | (simp [*]; done), by repeat (first | exact Drawn0.refl _ | apply Drawn0.step)⟩

/-! ### spec_l1In: function 75 -/
def spec_l1In.f (a0 : Int) (a1 : Int) (a2 : Int) : Option (Bool) := if a0 ≥ a1 then (some (decide (a0 ≤ a2))) else (some false)
set_option maxHeartbeats 8000000 in
set_option maxRecDepth 100000 in
theorem spec_l1In.calls (a0 : Int) (a1 : Int) (a2 : Int) (r : Bool) (w : World) (h : spec_l1In.f a0 a1 a2 = some r) :
  Calls Try.prog 75 #[.int .i64 a0, .int .i64 a1, .int .i64 a2] w fun e w' => e = .returned (.bool r) ∧ Drawn0 w w' := by
 have H : (if a0 ≥ a1 then (some (decide (a0 ≤ a2))) else (some false)) = some r := h
 clear h
 by_cases c4 : a0 ≥ a1
 ·rw [if_pos c4] at H
  have c4b0 : decide (a1 ≤ a0) = true := decide_eq_true c4
  clear c4
  obtain rfl := Option.some.inj H
  go_enter Try.func75, Try.ntmps75
  go_wp2
  go_ret
  exact ⟨by first | rfl | (simp; done) | (simp [*]; done), by repeat (first | exact Drawn0.refl _ | apply Drawn0.step)⟩
 ·rw [if_neg c4] at H
  have c4b0 : decide (a1 ≤ a0) = false := decide_eq_false c4
  clear c4
  obtain rfl := Option.some.inj H
  go_enter Try.func75, Try.ntmps75
  go_wp2
  go_ret
  exact ⟨by first | rfl | (simp; done) | (simp [*]; done), by repeat (first | exact Drawn0.refl _ | apply Drawn0.step)⟩

/-! ### spec_AddrOk: function 25 -/
def spec_AddrOk.f (a0_0 : Bool) (a0_1 : Int) (a0_2 : Int) : Option (Bool) := if a0_0 = true then (some true) else (if a0_1 = 0 then ((spec_l1In.f a0_2 0 4294967295).bind fun t116 => (some t116)) else (some false))
set_option maxHeartbeats 8000000 in
set_option maxRecDepth 100000 in
theorem spec_AddrOk.calls (a0_0 : Bool) (a0_1 : Int) (a0_2 : Int) (r : Bool) (w : World) (h : spec_AddrOk.f a0_0 a0_1 a0_2 = some r) :
  Calls Try.prog 25 #[.agg #[.bool a0_0, .int .i64 a0_1, .int .i64 a0_2]] w fun e w' => e = .returned (.bool r) ∧ Below w.heap.size w w' := by
 have hu26 := Try.underlying26
 have HB := Aside0.mk (Below.refl w.heap.size w)
 have H : (if a0_0 = true then (some true) else (if a0_1 = 0 then ((spec_l1In.f a0_2 0 4294967295).bind fun t116 => (some t116)) else (some false))) = some r := h
 clear h
 by_cases c2 : a0_0 = true
 ·subst c2
  have H1 : (some true) = some r := by rw [if_pos rfl] at H; exact H
  clear H
  have H := H1
  clear H1
  obtain rfl := Option.some.inj H
  go_enter Try.func25, Try.ntmps25
  go_wp2_with (first | ((with_reducible refine gate_dst (N := 1) rfl ?_); refine box_event ?hg (N := 1) ?hd (cs := #[.bool true, .int .i64 a0_1, .int .i64 a0_2]) (t := 26) ?hr ?_; (case hd => rfl); (case hg => rfl); (case hr => first | (go_simp; done) | (go_simp; rfl)); intro gb115 hg w3 hbox hb; have n0_ := Aside0.mk (below_step (by repeat (first | (with_reducible first | exact HB.out | apply below_alloc | apply pw_below_drewN | apply below_drew1) | exact HB.out)) hb); have n1_ := Aside0.mk (hbox); have n2_ := Aside0.mk ((by rw [hg]; exact (below_size (by repeat (first | (with_reducible first | exact HB.out | apply below_alloc | apply pw_below_drewN | apply below_drew1) | exact HB.out))) : w.heap.size ≤ gb115)); have n3_ := Aside0.mk ((by rw [hg]; exact (below_size (by repeat (first | (with_reducible first | exact HB.out | apply below_alloc | apply pw_below_drewN | apply below_drew1) | exact HB.out))) : w.heap.size ≤ gb115)); clear HB; have HB := n0_; have BK115 := n1_; have GW115 := n2_; have GE115 := n3_; clear n0_ n1_ n2_ n3_; clear hb hbox hg; have hcz4_0 : w3.cell? ⟨gb115, 0, none⟩ = some (.bool true) := (blk_cell BK115.out 0).trans rfl; have hcz4_1 : w3.cell? ⟨gb115, 1, none⟩ = some (.int .i64 a0_1) := (blk_cell BK115.out 1).trans rfl; have hcz4_2 : w3.cell? ⟨gb115, 2, none⟩ = some (.int .i64 a0_2) := (blk_cell BK115.out 2).trans rfl; have hfz4_0 := blk_frozen BK115.out 0; have hfz4_1 := blk_frozen BK115.out 1; have hfz4_2 := blk_frozen BK115.out 2))
  go_ret
  exact ⟨by first | rfl | (simp [errW_none, errW_some] <;> rfl) | (simp [*, errW_none, errW_some] <;> rfl), by repeat (first | (with_reducible first | exact HB.out | apply below_alloc | apply pw_below_drewN | apply below_drew1 | refine below_set ?_ GE115.out) | exact HB.out)⟩
 ·replace c2 := Bool.eq_false_iff.mpr c2
  subst c2
  have H1 : (if a0_1 = 0 then ((spec_l1In.f a0_2 0 4294967295).bind fun t116 => (some t116)) else (some false)) = some r := by rw [if_neg (show ¬ (false = true) by decide)] at H; exact H
  clear H
  have H := H1
  clear H1
  by_cases c5 : a0_1 = 0
  ·rw [if_pos c5] at H
   have c5b0 : (a0_1 == 0) = true := beq_iff_eq.mpr c5
   have c5b1 : (a0_1 != 0) = false := bne_eq_false_iff_eq.mpr c5
   clear c5
   replace H := Option.bind_eq_some_iff.mp H
   obtain ⟨t116, A60, H⟩ := H
   replace H : (some t116) = some r := H
   have A6 := Aside0.mk A60
   clear A60
   obtain rfl := Option.some.inj H
   go_enter Try.func25, Try.ntmps25
   go_wp2_with (first | ((with_reducible refine gate_dst (N := 1) rfl ?_); refine box_event ?hg (N := 1) ?hd (cs := #[.bool false, .int .i64 a0_1, .int .i64 a0_2]) (t := 26) ?hr ?_; (case hd => rfl); (case hg => rfl); (case hr => first | (go_simp; done) | (go_simp; rfl)); intro gb115 hg w7 hbox hb; have n0_ := Aside0.mk (below_step (by repeat (first | (with_reducible first | exact HB.out | apply below_alloc | apply pw_below_drewN | apply below_drew1) | exact HB.out)) hb); have n1_ := Aside0.mk (hbox); have n2_ := Aside0.mk ((by rw [hg]; exact (below_size (by repeat (first | (with_reducible first | exact HB.out | apply below_alloc | apply pw_below_drewN | apply below_drew1) | exact HB.out))) : w.heap.size ≤ gb115)); have n3_ := Aside0.mk ((by rw [hg]; exact (below_size (by repeat (first | (with_reducible first | exact HB.out | apply below_alloc | apply pw_below_drewN | apply below_drew1) | exact HB.out))) : w.heap.size ≤ gb115)); clear HB; have HB := n0_; have BK115 := n1_; have GW115 := n2_; have GE115 := n3_; clear n0_ n1_ n2_ n3_; clear hb hbox hg; have hcz8_0 : w7.cell? ⟨gb115, 0, none⟩ = some (.bool false) := (blk_cell BK115.out 0).trans rfl; have hcz8_1 : w7.cell? ⟨gb115, 1, none⟩ = some (.int .i64 a0_1) := (blk_cell BK115.out 1).trans rfl; have hcz8_2 : w7.cell? ⟨gb115, 2, none⟩ = some (.int .i64 a0_2) := (blk_cell BK115.out 2).trans rfl; have hfz8_0 := blk_frozen BK115.out 0; have hfz8_1 := blk_frozen BK115.out 1; have hfz8_2 := blk_frozen BK115.out 2) | (go_at_call 75; (with_reducible refine (spec_l1In.calls a0_2 0 4294967295 t116 _ A6.out).mono ?_); rintro e w' ⟨rfl, ⟨nd, rfl⟩⟩))
   go_ret
   exact ⟨by first | rfl | (simp [errW_none, errW_some] <;> rfl) | (simp [*, errW_none, errW_some] <;> rfl), by repeat (first | (with_reducible first | exact HB.out | apply below_alloc | apply pw_below_drewN | apply below_drew1 | refine below_set ?_ GE115.out) | exact HB.out)⟩
  ·rw [if_neg c5] at H
   have c5b0 : (a0_1 == 0) = false := beq_eq_false_iff_ne.mpr c5
   have c5b1 : (a0_1 != 0) = true := bne_iff_ne.mpr c5
   obtain rfl := Option.some.inj H
   go_enter Try.func25, Try.ntmps25
   go_wp2_with (first | ((with_reducible refine gate_dst (N := 1) rfl ?_); refine box_event ?hg (N := 1) ?hd (cs := #[.bool false, .int .i64 a0_1, .int .i64 a0_2]) (t := 26) ?hr ?_; (case hd => rfl); (case hg => rfl); (case hr => first | (go_simp; done) | (go_simp; rfl)); intro gb115 hg w9 hbox hb; have n0_ := Aside0.mk (below_step (by repeat (first | (with_reducible first | exact HB.out | apply below_alloc | apply pw_below_drewN | apply below_drew1) | exact HB.out)) hb); have n1_ := Aside0.mk (hbox); have n2_ := Aside0.mk ((by rw [hg]; exact (below_size (by repeat (first | (with_reducible first | exact HB.out | apply below_alloc | apply pw_below_drewN | apply below_drew1) | exact HB.out))) : w.heap.size ≤ gb115)); have n3_ := Aside0.mk ((by rw [hg]; exact (below_size (by repeat (first | (with_reducible first | exact HB.out | apply below_alloc | apply pw_below_drewN | apply below_drew1) | exact HB.out))) : w.heap.size ≤ gb115)); clear HB; have HB := n0_; have BK115 := n1_; have GW115 := n2_; have GE115 := n3_; clear n0_ n1_ n2_ n3_; clear hb hbox hg; have hcz10_0 : w9.cell? ⟨gb115, 0, none⟩ = some (.bool false) := (blk_cell BK115.out 0).trans rfl; have hcz10_1 : w9.cell? ⟨gb115, 1, none⟩ = some (.int .i64 a0_1) := (blk_cell BK115.out 1).trans rfl; have hcz10_2 : w9.cell? ⟨gb115, 2, none⟩ = some (.int .i64 a0_2) := (blk_cell BK115.out 2).trans rfl; have hfz10_0 := blk_frozen BK115.out 0; have hfz10_1 := blk_frozen BK115.out 1; have hfz10_2 := blk_frozen BK115.out 2))
   go_ret
   exact ⟨by first | rfl | (simp [errW_none, errW_some] <;> rfl) | (simp [*, errW_none, errW_some] <;> rfl), by repeat (first | (with_reducible first | exact HB.out | apply below_alloc | apply pw_below_drewN | apply below_drew1 | refine below_set ?_ GE115.out) | exact HB.out)⟩

/-! ### spec_l2Width: function 78 -/
def spec_l2Width.f (a0_0 : Bool) (a0_1 : Int) (a0_2 : Int) : Option (Int) := if a0_0 = true then (some 128) else (some 32)
set_option maxHeartbeats 8000000 in
set_option maxRecDepth 100000 in
theorem spec_l2Width.calls (a0_0 : Bool) (a0_1 : Int) (a0_2 : Int) (r : Int) (w : World) (h : spec_l2Width.f a0_0 a0_1 a0_2 = some r) :
  Calls Try.prog 78 #[.agg #[.bool a0_0, .int .i64 a0_1, .int .i64 a0_2]] w fun e w' => e = .returned (.int .i64 r) ∧ Below w.heap.size w w' := by
 have hu26 := Try.underlying26
 have HB := Aside0.mk (Below.refl w.heap.size w)
 have H : (if a0_0 = true then (some 128) else (some 32)) = some r := h
 clear h
 by_cases c2 : a0_0 = true
 ·subst c2
  have H1 : (some 128) = some r := by rw [if_pos rfl] at H; exact H
  clear H
  have H := H1
  clear H1
  obtain rfl := Option.some.inj H
  go_enter Try.func78, Try.ntmps78
  go_wp2_with (first | ((with_reducible refine gate_dst (N := 1) rfl ?_); refine box_event ?hg (N := 1) ?hd (cs := #[.bool true, .int .i64 a0_1, .int .i64 a0_2]) (t := 26) ?hr ?_; (case hd => rfl); (case hg => rfl); (case hr => first | (go_simp; done) | (go_simp; rfl)); intro gb117 hg w3 hbox hb; have n0_ := Aside0.mk (below_step (by repeat (first | (with_reducible first | exact HB.out | apply below_alloc | apply pw_below_drewN | apply below_drew1) | exact HB.out)) hb); have n1_ := Aside0.mk (hbox); have n2_ := Aside0.mk ((by rw [hg]; exact (below_size (by repeat (first | (with_reducible first | exact HB.out | apply below_alloc | apply pw_below_drewN | apply below_drew1) | exact HB.out))) : w.heap.size ≤ gb117)); have n3_ := Aside0.mk ((by rw [hg]; exact (below_size (by repeat (first | (with_reducible first | exact HB.out | apply below_alloc | apply pw_below_drewN | apply below_drew1) | exact HB.out))) : w.heap.size ≤ gb117)); clear HB; have HB := n0_; have BK117 := n1_; have GW117 := n2_; have GE117 := n3_; clear n0_ n1_ n2_ n3_; clear hb hbox hg; have hcz4_0 : w3.cell? ⟨gb117, 0, none⟩ = some (.bool true) := (blk_cell BK117.out 0).trans rfl; have hcz4_1 : w3.cell? ⟨gb117, 1, none⟩ = some (.int .i64 a0_1) := (blk_cell BK117.out 1).trans rfl; have hcz4_2 : w3.cell? ⟨gb117, 2, none⟩ = some (.int .i64 a0_2) := (blk_cell BK117.out 2).trans rfl; have hfz4_0 := blk_frozen BK117.out 0; have hfz4_1 := blk_frozen BK117.out 1; have hfz4_2 := blk_frozen BK117.out 2))
  go_ret
  exact ⟨by first | rfl | (simp [errW_none, errW_some] <;> rfl) | (simp [*, errW_none, errW_some] <;> rfl), by repeat (first | (with_reducible first | exact HB.out | apply below_alloc | apply pw_below_drewN | apply below_drew1 | refine below_set ?_ GE117.out) | exact HB.out)⟩
 ·replace c2 := Bool.eq_false_iff.mpr c2
  subst c2
  have H1 : (some 32) = some r := by rw [if_neg (show ¬ (false = true) by decide)] at H; exact H
  clear H
  have H := H1
  clear H1
  obtain rfl := Option.some.inj H
  go_enter Try.func78, Try.ntmps78
  go_wp2_with (first | ((with_reducible refine gate_dst (N := 1) rfl ?_); refine box_event ?hg (N := 1) ?hd (cs := #[.bool false, .int .i64 a0_1, .int .i64 a0_2]) (t := 26) ?hr ?_; (case hd => rfl); (case hg => rfl); (case hr => first | (go_simp; done) | (go_simp; rfl)); intro gb117 hg w5 hbox hb; have n0_ := Aside0.mk (below_step (by repeat (first | (with_reducible first | exact HB.out | apply below_alloc | apply pw_below_drewN | apply below_drew1) | exact HB.out)) hb); have n1_ := Aside0.mk (hbox); have n2_ := Aside0.mk ((by rw [hg]; exact (below_size (by repeat (first | (with_reducible first | exact HB.out | apply below_alloc | apply pw_below_drewN | apply below_drew1) | exact HB.out))) : w.heap.size ≤ gb117)); have n3_ := Aside0.mk ((by rw [hg]; exact (below_size (by repeat (first | (with_reducible first | exact HB.out | apply below_alloc | apply pw_below_drewN | apply below_drew1) | exact HB.out))) : w.heap.size ≤ gb117)); clear HB; have HB := n0_; have BK117 := n1_; have GW117 := n2_; have GE117 := n3_; clear n0_ n1_ n2_ n3_; clear hb hbox hg; have hcz6_0 : w5.cell? ⟨gb117, 0, none⟩ = some (.bool false) := (blk_cell BK117.out 0).trans rfl; have hcz6_1 : w5.cell? ⟨gb117, 1, none⟩ = some (.int .i64 a0_1) := (blk_cell BK117.out 1).trans rfl; have hcz6_2 : w5.cell? ⟨gb117, 2, none⟩ = some (.int .i64 a0_2) := (blk_cell BK117.out 2).trans rfl; have hfz6_0 := blk_frozen BK117.out 0; have hfz6_1 := blk_frozen BK117.out 1; have hfz6_2 := blk_frozen BK117.out 2))
  go_ret
  exact ⟨by first | rfl | (simp [errW_none, errW_some] <;> rfl) | (simp [*, errW_none, errW_some] <;> rfl), by repeat (first | (with_reducible first | exact HB.out | apply below_alloc | apply pw_below_drewN | apply below_drew1 | refine below_set ?_ GE117.out) | exact HB.out)⟩

/-! ### spec_l2High: function 132 -/
def spec_l2High.f (a0 : Int) : Option (Int) := if a0 ≤ 0 then (some 0) else (if a0 ≥ 64 then (some 18446744073709551615) else (if 0 ≤ (IntKind.u64.wrap (wrap64 (64 - a0))) then (some (shl .u64 18446744073709551615 (IntKind.u64.wrap (wrap64 (64 - a0))))) else (none)))
set_option maxHeartbeats 8000000 in
set_option maxRecDepth 100000 in
theorem spec_l2High.calls (a0 : Int) (r : Int) (w : World) (h : spec_l2High.f a0 = some r) :
  Calls Try.prog 132 #[.int .i64 a0] w fun e w' => e = .returned (.int .u64 r) ∧ Drawn0 w w' := by
 have H : (if a0 ≤ 0 then (some 0) else (if a0 ≥ 64 then (some 18446744073709551615) else (if 0 ≤ (IntKind.u64.wrap (wrap64 (64 - a0))) then (some (shl .u64 18446744073709551615 (IntKind.u64.wrap (wrap64 (64 - a0))))) else (none)))) = some r := h
 clear h
 by_cases c2 : a0 ≤ 0
 ·rw [if_pos c2] at H
  have c2b0 : decide (a0 ≤ 0) = true := decide_eq_true c2
  clear c2
  obtain rfl := Option.some.inj H
  go_enter Try.func132, Try.ntmps132
  go_wp2
  go_ret
  exact ⟨by first | rfl | (simp; done) | (simp [*]; done), by repeat (first | exact Drawn0.refl _ | apply Drawn0.step)⟩
 ·rw [if_neg c2] at H
  have c2b0 : decide (a0 ≤ 0) = false := decide_eq_false c2
  clear c2
  by_cases c3 : a0 ≥ 64
  ·rw [if_pos c3] at H
   have c3b0 : decide (64 ≤ a0) = true := decide_eq_true c3
   clear c3
   obtain rfl := Option.some.inj H
   go_enter Try.func132, Try.ntmps132
   go_wp2
   go_ret
   exact ⟨by first | rfl | (simp; done) | (simp [*]; done), by repeat (first | exact Drawn0.refl _ | apply Drawn0.step)⟩
  ·rw [if_neg c3] at H
   have c3b0 : decide (64 ≤ a0) = false := decide_eq_false c3
   clear c3
   obtain ⟨ji4, hji4⟩ : ∃ j_ : Int, (IntKind.u64.wrap (wrap64 (64 - a0))) = j_ := ⟨_, rfl⟩
   replace H : (if 0 ≤ (ji4) then (some (shl .u64 18446744073709551615 (ji4))) else (none)) = some r := by first | (rw [hji4] at H; exact H) | (simp only [hji4] at H ⊢; exact H)
   by_cases c5 : 0 ≤ (ji4)
   ·rw [if_pos c5] at H
    have c5b0 := eq_true c5
    have c5b1 : decide (0 ≤ (ji4)) = true := decide_eq_true c5
    clear c5
    obtain ⟨ji6, hji6⟩ : ∃ j_ : Int, (shl .u64 18446744073709551615 (ji4)) = j_ := ⟨_, rfl⟩
    replace H : (some ji6) = some r := by first | (rw [hji6] at H; exact H) | (simp only [hji6] at H ⊢; exact H)
    have hji6_ : (IntKind.u64.wrap (18446744073709551615 * 2 ^ min (ji4).toNat 64)) = ji6 := hji6
    have hji6z : (ji4) ≤ 64 → (IntKind.u64.wrap (18446744073709551615 * 2 ^ (ji4).toNat)) = ji6 := shl_small hji6
    obtain rfl := Option.some.inj H
    go_enter Try.func132, Try.ntmps132
    go_wp2
    go_ret
    exact ⟨by first | rfl | (simp; done) | (simp only [← hji4, ← hji6] <;> (first | rfl | simp)) | (simp [*]; done), by repeat (first | exact Drawn0.refl _ | apply Drawn0.step)⟩
   ·rw [if_neg c5] at H
    exact absurd H (by simp)

/-! ### spec_l2Mask: function 114 -/
def spec_l2Mask.f (a0_0 : Bool) (a0_1 : Int) (a0_2 : Int) (a1 : Int) : Option (Bool × Int × Int) := if a0_0 = true then ((spec_l2High.f a1).bind fun t120 => ((spec_l2High.f (wrap64 (a1 - 64))).bind fun t121 => (some (true, wrap64 (Go.bits .and .u64 (IntKind.u64.wrap (a0_1)) t120), wrap64 (Go.bits .and .u64 (IntKind.u64.wrap (a0_2)) t121))))) else ((spec_l2High.f a1).bind fun t122 => (some (false, 0, Go.bits .and .i64 a0_2 (wrap64 (t122 / 4294967296)))))
def spec_l2Mask.T2 : Bool × List (List Nat × List Nat) := (true, [([], []), ([0], [0]), ([], []), ([2], [2]), ([3], [3]), ([4], [4]), ([1, 5], [1, 5]), ([6], [6]), ([7, 3, 0, 1, 2, 3, 4, 5, 6, 7], [7])])
def spec_l2Mask.B2 : List Nat := [0, 1, 0, 4, 12, 28, 63, 127, 255]
theorem spec_l2Mask.tab2 : rtab .any (opsOf Try.f114 2) = spec_l2Mask.T2 := by kernel_rfl
theorem spec_l2Mask.bits2 : waitsOk spec_l2Mask.T2.2 spec_l2Mask.B2 = true := by kernel_rfl
def spec_l2Mask.T3 : Bool × List (List Nat × List Nat) := (true, [([], []), ([0], [0]), ([1], [1]), ([], []), ([3], [3]), ([2, 4], [2, 4]), ([5], [5]), ([], []), ([7], [7]), ([8], [8]), ([], []), ([10], [10]), ([11, 4], [11]), ([9, 12], [9, 12]), ([13], [13]), ([6, 14], [6, 14]), ([15, 12, 0, 1, 2, 3, 4, 5, 6, 7, 8, 9, 10, 11, 12, 13, 14, 15], [15])])
def spec_l2Mask.B3 : List Nat := [0, 1, 3, 0, 8, 31, 63, 0, 128, 384, 0, 1024, 3096, 8088, 16280, 32767, 65535]
theorem spec_l2Mask.tab3 : rtab .any (opsOf Try.f114 3) = spec_l2Mask.T3 := by kernel_rfl
theorem spec_l2Mask.bits3 : waitsOk spec_l2Mask.T3.2 spec_l2Mask.B3 = true := by kernel_rfl
set_option maxHeartbeats 8000000 in
set_option maxRecDepth 100000 in
theorem spec_l2Mask.calls (a0_0 : Bool) (a0_1 : Int) (a0_2 : Int) (a1 : Int) (r1 : Bool) (r2 : Int) (r3 : Int) (w : World) (h : spec_l2Mask.f a0_0 a0_1 a0_2 a1 = some (r1, r2, r3)) :
  Calls Try.prog 114 #[.agg #[.bool a0_0, .int .i64 a0_1, .int .i64 a0_2], .int .i64 a1] w fun e w' => e = .returned (.agg #[.bool r1, .int .i64 r2, .int .i64 r3]) ∧ Below w.heap.size w w' := by
 have hu26 := Try.underlying26
 have HB := Aside0.mk (Below.refl w.heap.size w)
 have H : (if a0_0 = true then ((spec_l2High.f a1).bind fun t120 => ((spec_l2High.f (wrap64 (a1 - 64))).bind fun t121 => (some (true, wrap64 (Go.bits .and .u64 (IntKind.u64.wrap (a0_1)) t120), wrap64 (Go.bits .and .u64 (IntKind.u64.wrap (a0_2)) t121))))) else ((spec_l2High.f a1).bind fun t122 => (some (false, 0, Go.bits .and .i64 a0_2 (wrap64 (t122 / 4294967296)))))) = some (r1, r2, r3) := h
 clear h
 by_cases c3 : a0_0 = true
 ·subst c3
  have H1 : ((spec_l2High.f a1).bind fun t120 => ((spec_l2High.f (wrap64 (a1 - 64))).bind fun t121 => (some (true, wrap64 (Go.bits .and .u64 (IntKind.u64.wrap (a0_1)) t120), wrap64 (Go.bits .and .u64 (IntKind.u64.wrap (a0_2)) t121))))) = some (r1, r2, r3) := by rw [if_pos rfl] at H; exact H
  clear H
  have H := H1
  clear H1
  replace H := Option.bind_eq_some_iff.mp H
  obtain ⟨t120, A40, H⟩ := H
  replace H : ((spec_l2High.f (wrap64 (a1 - 64))).bind fun t121 => (some (true, wrap64 (Go.bits .and .u64 (IntKind.u64.wrap (a0_1)) t120), wrap64 (Go.bits .and .u64 (IntKind.u64.wrap (a0_2)) t121)))) = some (r1, r2, r3) := H
  have A4 := Aside0.mk A40
  clear A40
  replace H := Option.bind_eq_some_iff.mp H
  obtain ⟨t121, A50, H⟩ := H
  replace H : (some (true, wrap64 (Go.bits .and .u64 (IntKind.u64.wrap (a0_1)) t120), wrap64 (Go.bits .and .u64 (IntKind.u64.wrap (a0_2)) t121))) = some (r1, r2, r3) := H
  have A5 := Aside0.mk A50
  clear A50
  simp only [Option.some.injEq, Prod.mk.injEq] at H
  obtain ⟨rfl, rfl, rfl⟩ := H
  go_enter Try.func114, Try.ntmps114
  try go_wp2_with (first | ((with_reducible refine gate_dst (N := 2) rfl ?_); refine box_event ?hg (N := 2) ?hd (cs := #[.bool true, .int .i64 a0_1, .int .i64 a0_2]) (t := 26) ?hr ?_; (case hd => rfl); (case hg => rfl); (case hr => first | (go_simp; done) | (go_simp; rfl)); intro gb118 hg w6 hbox hb; have n0_ := Aside0.mk (below_step (by repeat (first | (with_reducible first | exact HB.out | apply below_alloc | apply pw_below_drewN | apply below_drew1) | exact HB.out)) hb); have n1_ := Aside0.mk (hbox); have n2_ := Aside0.mk ((by rw [hg]; exact (below_size (by repeat (first | (with_reducible first | exact HB.out | apply below_alloc | apply pw_below_drewN | apply below_drew1) | exact HB.out))) : w.heap.size ≤ gb118)); have n3_ := Aside0.mk ((by rw [hg]; exact (below_size (by repeat (first | (with_reducible first | exact HB.out | apply below_alloc | apply pw_below_drewN | apply below_drew1) | exact HB.out))) : w.heap.size ≤ gb118)); clear HB; have HB := n0_; have BK118 := n1_; have GW118 := n2_; have GE118 := n3_; clear n0_ n1_ n2_ n3_; clear hb hbox hg) | ((with_reducible refine gate_dst (N := 4) rfl ?_); refine box_event ?hg (N := 4) ?hd (cs := #[.bool false, .int .i64 0, .int .i64 0]) (t := 26) ?hr ?_; (case hd => rfl); (case hg => rfl); (case hr => first | (go_simp; done) | (go_simp; rfl)); intro gb119 hg w7 hbox hb; have n0_ := Aside0.mk (blk_below (g := gb118) (o := .cells #[.bool true, .int .i64 a0_1, .int .i64 a0_2] 26 (0, 0)) (by (with_reducible repeat (first | apply blk_drewN | apply blk_drew | apply blk_alloc)); exact BK118.out) hb); have n1_ := Aside0.mk (below_step (by repeat (first | (with_reducible first | exact HB.out | apply below_alloc | apply pw_below_drewN | apply below_drew1 | refine below_set ?_ GE118.out) | exact HB.out)) hb); have n2_ := Aside0.mk (hbox); have n3_ := Aside0.mk ((by rw [hg]; exact (below_size (by repeat (first | (with_reducible first | exact HB.out | apply below_alloc | apply pw_below_drewN | apply below_drew1 | refine below_set ?_ GE118.out) | exact HB.out))) : w.heap.size ≤ gb119)); have n4_ := Aside0.mk ((by rw [hg]; exact (below_size (by repeat (first | (with_reducible first | exact HB.out | apply below_alloc | apply pw_below_drewN | apply below_drew1 | refine below_set ?_ GE118.out) | exact HB.out))) : w.heap.size ≤ gb119)); have n5_ := Aside0.mk ((by rw [hg]; exact Nat.ne_of_lt (blk_lt (g := gb118) (o := .cells #[.bool true, .int .i64 a0_1, .int .i64 a0_2] 26 (0, 0)) (by (with_reducible repeat (first | apply blk_drewN | apply blk_drew | apply blk_alloc)); exact BK118.out)) : gb118 ≠ gb119)); have n6_ := Aside0.mk ((by rw [hg]; exact Nat.ne_of_gt (blk_lt (g := gb118) (o := .cells #[.bool true, .int .i64 a0_1, .int .i64 a0_2] 26 (0, 0)) (by (with_reducible repeat (first | apply blk_drewN | apply blk_drew | apply blk_alloc)); exact BK118.out)) : gb119 ≠ gb118)); clear BK118; clear HB; have BK118 := n0_; have HB := n1_; have BK119 := n2_; have GW119 := n3_; have GE119 := n4_; have NB118_119 := n5_; have NB119_118 := n6_; clear n0_ n1_ n2_ n3_ n4_ n5_ n6_; clear hb hbox hg; have hnb8 := NB118_119.out; have hnc8 := NB119_118.out; have hcz9_0 : w7.cell? ⟨gb118, 0, none⟩ = some (.bool true) := (blk_cell BK118.out 0).trans rfl; have hcz9_1 : w7.cell? ⟨gb118, 1, none⟩ = some (.int .i64 a0_1) := (blk_cell BK118.out 1).trans rfl; have hcz9_2 : w7.cell? ⟨gb118, 2, none⟩ = some (.int .i64 a0_2) := (blk_cell BK118.out 2).trans rfl; have hfz9_0 := blk_frozen BK118.out 0; have hfz9_1 := blk_frozen BK118.out 1; have hfz9_2 := blk_frozen BK118.out 2))
  have n0_ := Aside0.mk (blk_drew BK118.out)
  have n1_ := Aside0.mk (blk_drew BK119.out)
  have n2_ := Aside0.mk (below_drew1 HB.out)
  clear BK118
  clear BK119
  clear HB
  have BK118 := n0_
  have BK119 := n1_
  have HB := n2_
  clear n0_ n1_ n2_
  refine start_ (n := 17) (S := fun w' => w'.cell? ⟨gb118, 0, none⟩ = some (.bool true) ∧ w'.cell? ⟨gb118, 1, none⟩ = some (.int .i64 a0_1) ∧ w'.cell? ⟨gb118, 2, none⟩ = some (.int .i64 a0_2)) (ds := []) #[false, false, false, false, false, false, false, false, false, false, false, false, false, false, false, false, false] (by kernel_rfl) rfl rfl ⟨(blk_cell BK118.out 0).trans rfl, (blk_cell BK118.out 1).trans rfl, (blk_cell BK118.out 2).trans rfl⟩ (fun hHeld => ?_); refine with_tabW spec_l2Mask.tab3 spec_l2Mask.bits3 (fun HT_ HW_ => ?_)
  generalize w7.drew = w10 at BK118 BK119 HB hHeld ⊢
  refine pure_ (i := 0) (N := some 16) (v := ?_) (a' := ?_) #[true, false, false, false, false, false, false, false, false, false, false, false, false, false, false, false, false] rfl rfl (any_of HT_.out (by kernel_rfl)) (fun _ _ _ h => h) (Or.inl ⟨by rfl, ?_⟩) ?_ ?_
  rotate_left
  ·intro w'
   go_simp
   with_reducible rfl
  rotate_left
  ·simp only [put, setIfInBounds_toArray, set_cons_zero, set_cons_succ, i64_w, i32_w]
   rfl
  refine pure_ (i := 3) (N := some 19) (v := ?_) (a' := ?_) #[true, false, false, true, false, false, false, false, false, false, false, false, false, false, false, false, false] rfl rfl (any_of HT_.out (by kernel_rfl)) (fun _ _ _ h => h) (Or.inl ⟨by rfl, ?_⟩) ?_ ?_
  rotate_left
  ·intro w'
   go_simp
   with_reducible rfl
  rotate_left
  ·simp only [put, setIfInBounds_toArray, set_cons_zero, set_cons_succ, i64_w, i32_w]
   rfl
  refine pure_ (i := 7) (N := some 23) (v := ?_) (a' := ?_) #[true, false, false, true, false, false, false, true, false, false, false, false, false, false, false, false, false] rfl rfl (any_of HT_.out (by kernel_rfl)) (fun _ _ _ h => h) (Or.inl ⟨by rfl, ?_⟩) ?_ ?_
  rotate_left
  ·intro w'
   go_simp
   with_reducible rfl
  rotate_left
  ·simp only [put, setIfInBounds_toArray, set_cons_zero, set_cons_succ, i64_w, i32_w]
   rfl
  refine pure_ (i := 10) (N := some 26) (v := ?_) (a' := ?_) #[true, false, false, true, false, false, false, true, false, false, true, false, false, false, false, false, false] rfl rfl (any_of HT_.out (by kernel_rfl)) (fun _ _ _ h => h) (Or.inl ⟨by rfl, ?_⟩) ?_ ?_
  rotate_left
  ·intro w'
   go_simp
   with_reducible rfl
  rotate_left
  ·simp only [put, setIfInBounds_toArray, set_cons_zero, set_cons_succ, i64_w, i32_w]
   rfl
  refine pure_ (i := 11) (N := some 27) (v := ?_) (a' := ?_) #[true, false, false, true, false, false, false, true, false, false, true, true, false, false, false, false, false] rfl rfl (any_of HT_.out (by kernel_rfl)) (fun _ _ _ h => h) (Or.inl ⟨by rfl, ?_⟩) ?_ ?_
  rotate_left
  ·intro w'
   go_simp
   with_reducible rfl
  rotate_left
  ·simp only [put, setIfInBounds_toArray, set_cons_zero, set_cons_succ, i64_w, i32_w]
   rfl
  refine take_ (i := 1) (N := some 17) (v := ?_) (a' := ?_) #[true, true, false, true, false, false, false, true, false, false, true, true, false, false, false, false, false] rfl rfl (take_ofW HT_.out HW_.out (by kernel_rfl)) (fun _ _ _ h => h) (Or.inl ⟨by rfl, ?_⟩) hHeld ?_ ?_
  rotate_left
  ·rintro w' ⟨s0, s1, s2⟩
   go_simp
   with_reducible rfl
  rotate_left
  ·simp only [put, setIfInBounds_toArray, set_cons_zero, set_cons_succ, i64_w, i32_w]
   rfl
  refine pure_ (i := 2) (N := some 18) (v := ?_) (a' := ?_) #[true, true, true, true, false, false, false, true, false, false, true, true, false, false, false, false, false] rfl rfl (any_of HT_.out (by kernel_rfl)) (fun _ _ _ h => h) (Or.inl ⟨by rfl, ?_⟩) ?_ ?_
  rotate_left
  ·intro w'
   go_simp
   with_reducible rfl
  rotate_left
  ·simp only [put, setIfInBounds_toArray, set_cons_zero, set_cons_succ, i64_w, i32_w]
   rfl
  refine take_ (i := 8) (N := some 24) (v := ?_) (a' := ?_) #[true, true, true, true, false, false, false, true, true, false, true, true, false, false, false, false, false] rfl rfl (take_ofW HT_.out HW_.out (by kernel_rfl)) (fun _ _ _ h => h) (Or.inl ⟨by rfl, ?_⟩) hHeld ?_ ?_
  rotate_left
  ·rintro w' ⟨s0, s1, s2⟩
   go_simp
   with_reducible rfl
  rotate_left
  ·simp only [put, setIfInBounds_toArray, set_cons_zero, set_cons_succ, i64_w, i32_w]
   rfl
  refine pure_ (i := 9) (N := some 25) (v := ?_) (a' := ?_) #[true, true, true, true, false, false, false, true, true, true, true, true, false, false, false, false, false] rfl rfl (any_of HT_.out (by kernel_rfl)) (fun _ _ _ h => h) (Or.inl ⟨by rfl, ?_⟩) ?_ ?_
  rotate_left
  ·intro w'
   go_simp
   with_reducible rfl
  rotate_left
  ·simp only [put, setIfInBounds_toArray, set_cons_zero, set_cons_succ, i64_w, i32_w]
   rfl
  refine one_ (i := 4) (N := some 20) #[true, true, true, true, true, false, false, true, true, true, true, true, false, false, false, false, false] rfl rfl (one_of HT_.out (by kernel_rfl)) (by decide) (fun K hK => ?_)
  refine goes_ Try.func132 (by kernel_rfl) rfl #[.int .i64 a1] (by rfl) rfl rfl (by (try simp only [List.map_toArray, List.map_cons, List.map_nil]); first | done | rfl | (simp only [List.length_drop, List.length_take]; rfl)) ?_
  with_reducible refine (spec_l2High.calls a1 t120 _ A4.out).mono ?_
  rintro e w' ⟨rfl, ⟨nd, rfl⟩⟩
  refine ⟨_, rfl, ?_⟩
  refine hK.out _ _ ⟨(blk_cell BK118.out 0).trans rfl, (blk_cell BK118.out 1).trans rfl, (blk_cell BK118.out 2).trans rfl⟩ (fun hHeld => ?_)
  clear hK K
  refine norm_ (a' := ?_) ?_ ?_
  rotate_left
  ·show Act.put _ (some 20) _ = _
   simp only [put, setIfInBounds_toArray, set_cons_zero, set_cons_succ, i64_w, i32_w]
   rfl
  refine pure_ (i := 5) (N := some 21) (v := ?_) (a' := ?_) #[true, true, true, true, true, true, false, true, true, true, true, true, false, false, false, false, false] rfl rfl (any_of HT_.out (by kernel_rfl)) (fun _ _ _ h => h) (Or.inl ⟨by rfl, ?_⟩) ?_ ?_
  rotate_left
  ·intro w'
   go_simp
   with_reducible rfl
  rotate_left
  ·simp only [put, setIfInBounds_toArray, set_cons_zero, set_cons_succ, i64_w, i32_w]
   rfl
  refine pure_ (i := 6) (N := some 22) (v := ?_) (a' := ?_) #[true, true, true, true, true, true, true, true, true, true, true, true, false, false, false, false, false] rfl rfl (any_of HT_.out (by kernel_rfl)) (fun _ _ _ h => h) (Or.inl ⟨by rfl, ?_⟩) ?_ ?_
  rotate_left
  ·intro w'
   go_simp
   with_reducible rfl
  rotate_left
  ·simp only [put, setIfInBounds_toArray, set_cons_zero, set_cons_succ, i64_w, i32_w]
   rfl
  refine one_ (i := 12) (N := some 28) #[true, true, true, true, true, true, true, true, true, true, true, true, true, false, false, false, false] rfl rfl (one_of HT_.out (by kernel_rfl)) (by decide) (fun K hK => ?_)
  refine goes_ Try.func132 (by kernel_rfl) rfl #[.int .i64 (wrap64 (a1 - 64))] (by rfl) rfl rfl (by (try simp only [List.map_toArray, List.map_cons, List.map_nil]); first | done | rfl | (simp only [List.length_drop, List.length_take]; rfl)) ?_
  with_reducible refine (spec_l2High.calls (wrap64 (a1 - 64)) t121 _ A5.out).mono ?_
  rintro e w' ⟨rfl, ⟨nd, rfl⟩⟩
  refine ⟨_, rfl, ?_⟩
  refine hK.out _ _ ⟨(blk_cell BK118.out 0).trans rfl, (blk_cell BK118.out 1).trans rfl, (blk_cell BK118.out 2).trans rfl⟩ (fun hHeld => ?_)
  clear hK K
  refine norm_ (a' := ?_) ?_ ?_
  rotate_left
  ·show Act.put _ (some 28) _ = _
   simp only [put, setIfInBounds_toArray, set_cons_zero, set_cons_succ, i64_w, i32_w]
   rfl
  refine pure_ (i := 13) (N := some 29) (v := ?_) (a' := ?_) #[true, true, true, true, true, true, true, true, true, true, true, true, true, true, false, false, false] rfl rfl (any_of HT_.out (by kernel_rfl)) (fun _ _ _ h => h) (Or.inl ⟨by rfl, ?_⟩) ?_ ?_
  rotate_left
  ·intro w'
   go_simp
   with_reducible rfl
  rotate_left
  ·simp only [put, setIfInBounds_toArray, set_cons_zero, set_cons_succ, i64_w, i32_w]
   rfl
  refine pure_ (i := 14) (N := some 30) (v := ?_) (a' := ?_) #[true, true, true, true, true, true, true, true, true, true, true, true, true, true, true, false, false] rfl rfl (any_of HT_.out (by kernel_rfl)) (fun _ _ _ h => h) (Or.inl ⟨by rfl, ?_⟩) ?_ ?_
  rotate_left
  ·intro w'
   go_simp
   with_reducible rfl
  rotate_left
  ·simp only [put, setIfInBounds_toArray, set_cons_zero, set_cons_succ, i64_w, i32_w]
   rfl
  refine pure_ (i := 15) (N := some 31) (v := ?_) (a' := ?_) #[true, true, true, true, true, true, true, true, true, true, true, true, true, true, true, true, false] rfl rfl (any_of HT_.out (by kernel_rfl)) (fun _ _ _ h => h) (Or.inl ⟨by rfl, ?_⟩) ?_ ?_
  rotate_left
  ·intro w'
   go_simp
   with_reducible rfl
  rotate_left
  ·simp only [put, setIfInBounds_toArray, set_cons_zero, set_cons_succ, i64_w, i32_w]
   rfl
  refine one_ (i := 16) (N := none) #[true, true, true, true, true, true, true, true, true, true, true, true, true, true, true, true, true] rfl rfl (one_of HT_.out (by kernel_rfl)) (by decide) (fun K hK => ?_)
  have hs11 : w10.cell? ⟨gb119, 0, none⟩ = some (.bool false) := (blk_cell BK119.out 0).trans rfl
  have hfs11 := blk_frozen BK119.out 0
  have hns11_0 := NB118_119.out
  have hms11_0 := NB119_118.out
  have hs12 : w10.cell? ⟨gb119, 1, none⟩ = some (.int .i64 0) := (blk_cell BK119.out 1).trans rfl
  have hfs12 := blk_frozen BK119.out 1
  have hns12_0 := NB118_119.out
  have hms12_0 := NB119_118.out
  have hs13 : w10.cell? ⟨gb119, 2, none⟩ = some (.int .i64 0) := (blk_cell BK119.out 2).trans rfl
  have hfs13 := blk_frozen BK119.out 2
  have hns13_0 := NB118_119.out
  have hms13_0 := NB119_118.out
  refine skip_ (w1 := ?_) (by rfl) rfl ?_ ?_
  rotate_left
  ·go_simp
   rfl
  refine hK.out _ _ ⟨((cell_far (p := ⟨gb119, _, none⟩) NB118_119.out _).trans (((cell_far (p := ⟨gb119, _, none⟩) NB118_119.out _).trans (((cell_far (p := ⟨gb119, _, none⟩) NB118_119.out _).trans (hHeld.1)))))), ((cell_far (p := ⟨gb119, _, none⟩) NB118_119.out _).trans (((cell_far (p := ⟨gb119, _, none⟩) NB118_119.out _).trans (((cell_far (p := ⟨gb119, _, none⟩) NB118_119.out _).trans (hHeld.2.1)))))), ((cell_far (p := ⟨gb119, _, none⟩) NB118_119.out _).trans (((cell_far (p := ⟨gb119, _, none⟩) NB118_119.out _).trans (((cell_far (p := ⟨gb119, _, none⟩) NB118_119.out _).trans (hHeld.2.2))))))⟩ (fun hHeld => ?_)
  clear hK K
  refine done_ (done_of HT_.out (by kernel_rfl)) ?_
  try go_wp2
  refine bodyPost_ret (results_cell_row rfl _ _ gb119 26 #[.bool true, .int .i64 (wrap64 (Go.bits .and .u64 (IntKind.u64.wrap (a0_1)) t120)), .int .i64 (wrap64 (Go.bits .and .u64 (IntKind.u64.wrap (a0_2)) t121))] (0, 0) _ rfl (by (with_reducible repeat (first | apply blk_drewN | apply blk_drew | apply blk_alloc)); refine blk_put (cs := #[.bool true, .int .i64 (wrap64 (Go.bits .and .u64 (IntKind.u64.wrap (a0_1)) t120)), .int .i64 0]) ?_ 2 _ rfl; (with_reducible repeat (first | apply blk_drewN | apply blk_drew | apply blk_alloc)); refine blk_put (cs := #[.bool true, .int .i64 0, .int .i64 0]) ?_ 1 _ rfl; (with_reducible repeat (first | apply blk_drewN | apply blk_drew | apply blk_alloc)); refine blk_put (cs := #[.bool false, .int .i64 0, .int .i64 0]) ?_ 0 _ rfl; (with_reducible repeat (first | apply blk_drewN | apply blk_drew | apply blk_alloc)); exact BK119.out) Try.underlying26 rfl (by kernel_rfl)) rfl ?_
  exact ⟨by first | rfl | (simp [errW_none, errW_some] <;> rfl) | (simp [*, errW_none, errW_some] <;> rfl), by repeat (first | (with_reducible first | exact HB.out | apply below_alloc | apply pw_below_drewN | apply below_drew1 | refine below_set ?_ GE118.out | refine below_set ?_ GE119.out) | exact HB.out)⟩
 ·replace c3 := Bool.eq_false_iff.mpr c3
  subst c3
  have H1 : ((spec_l2High.f a1).bind fun t122 => (some (false, 0, Go.bits .and .i64 a0_2 (wrap64 (t122 / 4294967296))))) = some (r1, r2, r3) := by rw [if_neg (show ¬ (false = true) by decide)] at H; exact H
  clear H
  have H := H1
  clear H1
  replace H := Option.bind_eq_some_iff.mp H
  obtain ⟨t122, A140, H⟩ := H
  replace H : (some (false, 0, Go.bits .and .i64 a0_2 (wrap64 (t122 / 4294967296)))) = some (r1, r2, r3) := H
  have A14 := Aside0.mk A140
  clear A140
  simp only [Option.some.injEq, Prod.mk.injEq] at H
  obtain ⟨rfl, rfl, rfl⟩ := H
  go_enter Try.func114, Try.ntmps114
  try go_wp2_with (first | ((with_reducible refine gate_dst (N := 2) rfl ?_); refine box_event ?hg (N := 2) ?hd (cs := #[.bool false, .int .i64 a0_1, .int .i64 a0_2]) (t := 26) ?hr ?_; (case hd => rfl); (case hg => rfl); (case hr => first | (go_simp; done) | (go_simp; rfl)); intro gb118 hg w15 hbox hb; have n0_ := Aside0.mk (below_step (by repeat (first | (with_reducible first | exact HB.out | apply below_alloc | apply pw_below_drewN | apply below_drew1) | exact HB.out)) hb); have n1_ := Aside0.mk (hbox); have n2_ := Aside0.mk ((by rw [hg]; exact (below_size (by repeat (first | (with_reducible first | exact HB.out | apply below_alloc | apply pw_below_drewN | apply below_drew1) | exact HB.out))) : w.heap.size ≤ gb118)); have n3_ := Aside0.mk ((by rw [hg]; exact (below_size (by repeat (first | (with_reducible first | exact HB.out | apply below_alloc | apply pw_below_drewN | apply below_drew1) | exact HB.out))) : w.heap.size ≤ gb118)); clear HB; have HB := n0_; have BK118 := n1_; have GW118 := n2_; have GE118 := n3_; clear n0_ n1_ n2_ n3_; clear hb hbox hg) | ((with_reducible refine gate_dst (N := 4) rfl ?_); refine box_event ?hg (N := 4) ?hd (cs := #[.bool false, .int .i64 0, .int .i64 0]) (t := 26) ?hr ?_; (case hd => rfl); (case hg => rfl); (case hr => first | (go_simp; done) | (go_simp; rfl)); intro gb119 hg w16 hbox hb; have n0_ := Aside0.mk (blk_below (g := gb118) (o := .cells #[.bool false, .int .i64 a0_1, .int .i64 a0_2] 26 (0, 0)) (by (with_reducible repeat (first | apply blk_drewN | apply blk_drew | apply blk_alloc)); exact BK118.out) hb); have n1_ := Aside0.mk (below_step (by repeat (first | (with_reducible first | exact HB.out | apply below_alloc | apply pw_below_drewN | apply below_drew1 | refine below_set ?_ GE118.out) | exact HB.out)) hb); have n2_ := Aside0.mk (hbox); have n3_ := Aside0.mk ((by rw [hg]; exact (below_size (by repeat (first | (with_reducible first | exact HB.out | apply below_alloc | apply pw_below_drewN | apply below_drew1 | refine below_set ?_ GE118.out) | exact HB.out))) : w.heap.size ≤ gb119)); have n4_ := Aside0.mk ((by rw [hg]; exact (below_size (by repeat (first | (with_reducible first | exact HB.out | apply below_alloc | apply pw_below_drewN | apply below_drew1 | refine below_set ?_ GE118.out) | exact HB.out))) : w.heap.size ≤ gb119)); have n5_ := Aside0.mk ((by rw [hg]; exact Nat.ne_of_lt (blk_lt (g := gb118) (o := .cells #[.bool false, .int .i64 a0_1, .int .i64 a0_2] 26 (0, 0)) (by (with_reducible repeat (first | apply blk_drewN | apply blk_drew | apply blk_alloc)); exact BK118.out)) : gb118 ≠ gb119)); have n6_ := Aside0.mk ((by rw [hg]; exact Nat.ne_of_gt (blk_lt (g := gb118) (o := .cells #[.bool false, .int .i64 a0_1, .int .i64 a0_2] 26 (0, 0)) (by (with_reducible repeat (first | apply blk_drewN | apply blk_drew | apply blk_alloc)); exact BK118.out)) : gb119 ≠ gb118)); clear BK118; clear HB; have BK118 := n0_; have HB := n1_; have BK119 := n2_; have GW119 := n3_; have GE119 := n4_; have NB118_119 := n5_; have NB119_118 := n6_; clear n0_ n1_ n2_ n3_ n4_ n5_ n6_; clear hb hbox hg; have hnb17 := NB118_119.out; have hnc17 := NB119_118.out; have hcz18_0 : w16.cell? ⟨gb118, 0, none⟩ = some (.bool false) := (blk_cell BK118.out 0).trans rfl; have hcz18_1 : w16.cell? ⟨gb118, 1, none⟩ = some (.int .i64 a0_1) := (blk_cell BK118.out 1).trans rfl; have hcz18_2 : w16.cell? ⟨gb118, 2, none⟩ = some (.int .i64 a0_2) := (blk_cell BK118.out 2).trans rfl; have hfz18_0 := blk_frozen BK118.out 0; have hfz18_1 := blk_frozen BK118.out 1; have hfz18_2 := blk_frozen BK118.out 2))
  have n0_ := Aside0.mk (blk_drew BK118.out)
  have n1_ := Aside0.mk (blk_drew BK119.out)
  have n2_ := Aside0.mk (below_drew1 HB.out)
  clear BK118
  clear BK119
  clear HB
  have BK118 := n0_
  have BK119 := n1_
  have HB := n2_
  clear n0_ n1_ n2_
  refine start_ (n := 9) (S := fun w' => w'.cell? ⟨gb118, 0, none⟩ = some (.bool false) ∧ w'.cell? ⟨gb118, 1, none⟩ = some (.int .i64 a0_1) ∧ w'.cell? ⟨gb118, 2, none⟩ = some (.int .i64 a0_2)) (ds := []) #[false, false, false, false, false, false, false, false, false] (by kernel_rfl) rfl rfl ⟨(blk_cell BK118.out 0).trans rfl, (blk_cell BK118.out 1).trans rfl, (blk_cell BK118.out 2).trans rfl⟩ (fun hHeld => ?_); refine with_tabW spec_l2Mask.tab2 spec_l2Mask.bits2 (fun HT_ HW_ => ?_)
  generalize w16.drew = w19 at BK118 BK119 HB hHeld ⊢
  refine pure_ (i := 0) (N := some 8) (v := ?_) (a' := ?_) #[true, false, false, false, false, false, false, false, false] rfl rfl (any_of HT_.out (by kernel_rfl)) (fun _ _ _ h => h) (Or.inl ⟨by rfl, ?_⟩) ?_ ?_
  rotate_left
  ·intro w'
   go_simp
   with_reducible rfl
  rotate_left
  ·simp only [put, setIfInBounds_toArray, set_cons_zero, set_cons_succ, i64_w, i32_w]
   rfl
  refine pure_ (i := 2) (N := some 10) (v := ?_) (a' := ?_) #[true, false, true, false, false, false, false, false, false] rfl rfl (any_of HT_.out (by kernel_rfl)) (fun _ _ _ h => h) (Or.inl ⟨by rfl, ?_⟩) ?_ ?_
  rotate_left
  ·intro w'
   go_simp
   with_reducible rfl
  rotate_left
  ·simp only [put, setIfInBounds_toArray, set_cons_zero, set_cons_succ, i64_w, i32_w]
   rfl
  refine take_ (i := 1) (N := some 9) (v := ?_) (a' := ?_) #[true, true, true, false, false, false, false, false, false] rfl rfl (take_ofW HT_.out HW_.out (by kernel_rfl)) (fun _ _ _ h => h) (Or.inl ⟨by rfl, ?_⟩) hHeld ?_ ?_
  rotate_left
  ·rintro w' ⟨s0, s1, s2⟩
   go_simp
   with_reducible rfl
  rotate_left
  ·simp only [put, setIfInBounds_toArray, set_cons_zero, set_cons_succ, i64_w, i32_w]
   rfl
  refine one_ (i := 3) (N := some 11) #[true, true, true, true, false, false, false, false, false] rfl rfl (one_of HT_.out (by kernel_rfl)) (by decide) (fun K hK => ?_)
  refine goes_ Try.func132 (by kernel_rfl) rfl #[.int .i64 a1] (by rfl) rfl rfl (by (try simp only [List.map_toArray, List.map_cons, List.map_nil]); first | done | rfl | (simp only [List.length_drop, List.length_take]; rfl)) ?_
  with_reducible refine (spec_l2High.calls a1 t122 _ A14.out).mono ?_
  rintro e w' ⟨rfl, ⟨nd, rfl⟩⟩
  refine ⟨_, rfl, ?_⟩
  refine hK.out _ _ ⟨(blk_cell BK118.out 0).trans rfl, (blk_cell BK118.out 1).trans rfl, (blk_cell BK118.out 2).trans rfl⟩ (fun hHeld => ?_)
  clear hK K
  refine norm_ (a' := ?_) ?_ ?_
  rotate_left
  ·show Act.put _ (some 11) _ = _
   simp only [put, setIfInBounds_toArray, set_cons_zero, set_cons_succ, i64_w, i32_w]
   rfl
  refine pure_ (i := 4) (N := some 12) (v := ?_) (a' := ?_) #[true, true, true, true, true, false, false, false, false] rfl rfl (any_of HT_.out (by kernel_rfl)) (fun _ _ _ h => h) (Or.inl ⟨by rfl, ?_⟩) ?_ ?_
  rotate_left
  ·intro w'
   go_simp
   with_reducible rfl
  rotate_left
  ·simp only [put, setIfInBounds_toArray, set_cons_zero, set_cons_succ, i64_w, i32_w]
   rfl
  refine pure_ (i := 5) (N := some 13) (v := ?_) (a' := ?_) #[true, true, true, true, true, true, false, false, false] rfl rfl (any_of HT_.out (by kernel_rfl)) (fun _ _ _ h => h) (Or.inl ⟨by rfl, ?_⟩) ?_ ?_
  rotate_left
  ·intro w'
   go_simp
   with_reducible rfl
  rotate_left
  ·simp only [put, setIfInBounds_toArray, set_cons_zero, set_cons_succ, i64_w, i32_w]
   rfl
  refine pure_ (i := 6) (N := some 14) (v := ?_) (a' := ?_) #[true, true, true, true, true, true, true, false, false] rfl rfl (any_of HT_.out (by kernel_rfl)) (fun _ _ _ h => h) (Or.inl ⟨by rfl, ?_⟩) ?_ ?_
  rotate_left
  ·intro w'
   go_simp
   with_reducible rfl
  rotate_left
  ·simp only [put, setIfInBounds_toArray, set_cons_zero, set_cons_succ, i64_w, i32_w]
   rfl
  refine pure_ (i := 7) (N := some 15) (v := ?_) (a' := ?_) #[true, true, true, true, true, true, true, true, false] rfl rfl (any_of HT_.out (by kernel_rfl)) (fun _ _ _ h => h) (Or.inl ⟨by rfl, ?_⟩) ?_ ?_
  rotate_left
  ·intro w'
   go_simp
   with_reducible rfl
  rotate_left
  ·simp only [put, setIfInBounds_toArray, set_cons_zero, set_cons_succ, i64_w, i32_w]
   rfl
  refine one_ (i := 8) (N := none) #[true, true, true, true, true, true, true, true, true] rfl rfl (one_of HT_.out (by kernel_rfl)) (by decide) (fun K hK => ?_)
  have hs20 : w19.cell? ⟨gb119, 0, none⟩ = some (.bool false) := (blk_cell BK119.out 0).trans rfl
  have hfs20 := blk_frozen BK119.out 0
  have hns20_0 := NB118_119.out
  have hms20_0 := NB119_118.out
  have hs21 : w19.cell? ⟨gb119, 1, none⟩ = some (.int .i64 0) := (blk_cell BK119.out 1).trans rfl
  have hfs21 := blk_frozen BK119.out 1
  have hns21_0 := NB118_119.out
  have hms21_0 := NB119_118.out
  have hs22 : w19.cell? ⟨gb119, 2, none⟩ = some (.int .i64 0) := (blk_cell BK119.out 2).trans rfl
  have hfs22 := blk_frozen BK119.out 2
  have hns22_0 := NB118_119.out
  have hms22_0 := NB119_118.out
  refine skip_ (w1 := ?_) (by rfl) rfl ?_ ?_
  rotate_left
  ·go_simp
   rfl
  refine hK.out _ _ ⟨((cell_far (p := ⟨gb119, _, none⟩) NB118_119.out _).trans (((cell_far (p := ⟨gb119, _, none⟩) NB118_119.out _).trans (((cell_far (p := ⟨gb119, _, none⟩) NB118_119.out _).trans (hHeld.1)))))), ((cell_far (p := ⟨gb119, _, none⟩) NB118_119.out _).trans (((cell_far (p := ⟨gb119, _, none⟩) NB118_119.out _).trans (((cell_far (p := ⟨gb119, _, none⟩) NB118_119.out _).trans (hHeld.2.1)))))), ((cell_far (p := ⟨gb119, _, none⟩) NB118_119.out _).trans (((cell_far (p := ⟨gb119, _, none⟩) NB118_119.out _).trans (((cell_far (p := ⟨gb119, _, none⟩) NB118_119.out _).trans (hHeld.2.2))))))⟩ (fun hHeld => ?_)
  clear hK K
  refine done_ (done_of HT_.out (by kernel_rfl)) ?_
  try go_wp2
  refine bodyPost_ret (results_cell_row rfl _ _ gb119 26 #[.bool false, .int .i64 0, .int .i64 (Go.bits .and .i64 a0_2 (wrap64 (t122 / 4294967296)))] (0, 0) _ rfl (by (with_reducible repeat (first | apply blk_drewN | apply blk_drew | apply blk_alloc)); refine blk_put (cs := #[.bool false, .int .i64 0, .int .i64 0]) ?_ 2 _ rfl; (with_reducible repeat (first | apply blk_drewN | apply blk_drew | apply blk_alloc)); refine blk_put (cs := #[.bool false, .int .i64 0, .int .i64 0]) ?_ 1 _ rfl; (with_reducible repeat (first | apply blk_drewN | apply blk_drew | apply blk_alloc)); refine blk_put (cs := #[.bool false, .int .i64 0, .int .i64 0]) ?_ 0 _ rfl; (with_reducible repeat (first | apply blk_drewN | apply blk_drew | apply blk_alloc)); exact BK119.out) Try.underlying26 rfl (by kernel_rfl)) rfl ?_
  exact ⟨by first | rfl | (simp [errW_none, errW_some] <;> rfl) | (simp [*, errW_none, errW_some] <;> rfl), by repeat (first | (with_reducible first | exact HB.out | apply below_alloc | apply pw_below_drewN | apply below_drew1 | refine below_set ?_ GE118.out | refine below_set ?_ GE119.out) | exact HB.out)⟩

end Go.Proofs.Ytigmadccchofiaa.QFnExactFirstFree
