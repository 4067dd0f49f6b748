-- Written by a program of this session (wip/myprint.py); Lean checks it.
import Derived.Test.YthakdhdoeejkmaaQFnExactWithoutx0
import Derived.Test.YthakdhdoeejkmaaQFnExactWithoutx10
import Derived.Test.YthakdhdoeejkmaaQFnExactWithoutx11
import Derived.Test.YthakdhdoeejkmaaQFnExactWithoutx12
namespace Go.Proofs.Ythakdhdoeejkmaa.QFnExactWithout
open Go.RowKit Go.Proofs.YthakdhdoeejkmaaW.PrintWords Go.Proofs.YthakdhdoeejkmaaW.PrintLast Go.Proofs.YthakdhdoeejkmaaW.PrintMore
open Act (put)
open List (setIfInBounds_toArray set_cons_zero set_cons_succ)
attribute [local go_sem] max2_int min2_int max_two min_two max_three min_three max_four min_four   -- for this text's walks alone
set_option linter.unusedVariables false
set_option linter.unusedSimpArgs false

attribute [local go_sem] isSome_setCell
/-! ### impl_Within: function 44 -/
def impl_Within.f (a0_0 : Bool) (a0_1 : Int) (a0_2 : Int) (a0_3 : Int) (a1_0 : Bool) (a1_1 : Int) (a1_2 : Int) (a1_3 : Int) : Option (Bool) := (impl_PrefixOk.f a0_0 a0_1 a0_2 a0_3).bind fun t257 => (if t257 = true then ((impl_HasAddr.f a1_0 a1_1 a1_2 a1_3 a0_0 a0_1 a0_2).bind fun t258 => (if t258 = true then (some (decide (a0_3 ≥ a1_3))) else (some false))) else (some false))
set_option maxHeartbeats 8000000 in
set_option maxRecDepth 100000 in
theorem impl_Within.calls (a0_0 : Bool) (a0_1 : Int) (a0_2 : Int) (a0_3 : Int) (a1_0 : Bool) (a1_1 : Int) (a1_2 : Int) (a1_3 : Int) (r : Bool) (w : World) (h : impl_Within.f a0_0 a0_1 a0_2 a0_3 a1_0 a1_1 a1_2 a1_3 = some r) :
  Calls Try.prog 44 #[.agg #[.bool a0_0, .int .i64 a0_1, .int .i64 a0_2, .int .i64 a0_3], .agg #[.bool a1_0, .int .i64 a1_1, .int .i64 a1_2, .int .i64 a1_3]] w fun e w' => e = .returned (.bool r) ∧ Below w.heap.size w w' := by
 have hu31 := Try.underlying31
 have hu29 := Try.underlying29
 have HB := Aside0.mk (Below.refl w.heap.size w)
 have H : ((impl_PrefixOk.f a0_0 a0_1 a0_2 a0_3).bind fun t257 => (if t257 = true then ((impl_HasAddr.f a1_0 a1_1 a1_2 a1_3 a0_0 a0_1 a0_2).bind fun t258 => (if t258 = true then (some (decide (a0_3 ≥ a1_3))) else (some false))) else (some false))) = some r := h
 clear h
 replace H := Option.bind_eq_some_iff.mp H
 obtain ⟨t257, A30, H⟩ := H
 replace H : (if t257 = true then ((impl_HasAddr.f a1_0 a1_1 a1_2 a1_3 a0_0 a0_1 a0_2).bind fun t258 => (if t258 = true then (some (decide (a0_3 ≥ a1_3))) else (some false))) else (some false)) = some r := H
 have A3 := Aside0.mk A30
 clear A30
 by_cases c4 : t257 = true
 ·subst c4
  have H1 : ((impl_HasAddr.f a1_0 a1_1 a1_2 a1_3 a0_0 a0_1 a0_2).bind fun t258 => (if t258 = true then (some (decide (a0_3 ≥ a1_3))) else (some false))) = some r := by rw [if_pos rfl] at H; exact H
  clear H
  have H := H1
  clear H1
  replace H := Option.bind_eq_some_iff.mp H
  obtain ⟨t258, A50, H⟩ := H
  replace H : (if t258 = true then (some (decide (a0_3 ≥ a1_3))) else (some false)) = some r := H
  have A5 := Aside0.mk A50
  clear A50
  by_cases c6 : t258 = true
  ·subst c6
   have H1 : (some (decide (a0_3 ≥ a1_3))) = some r := by rw [if_pos rfl] at H; exact H
   clear H
   have H := H1
   clear H1
   obtain rfl := Option.some.inj H
   go_enter Try.func44, Try.ntmps44
   go_wp2_with (first | ((with_reducible refine gate_dst (N := 2) rfl ?_); refine box_event ?hg (N := 2) ?hd (cs := #[.bool a0_0, .int .i64 a0_1, .int .i64 a0_2, .int .i64 a0_3]) (t := 31) ?hr ?_; (case hd => rfl); (case hg => rfl); (case hr => first | (go_simp; done) | (go_simp; rfl)); intro gb255 hg w7 hbox hb; have n0_ := Aside0.mk (below_step (by repeat (first | (with_reducible first | exact HB.out | apply below_alloc | apply pw_below_drewN | apply below_drew1) | exact HB.out)) hb); have n1_ := Aside0.mk (hbox); have n2_ := Aside0.mk ((by rw [hg]; exact (below_size (by repeat (first | (with_reducible first | exact HB.out | apply below_alloc | apply pw_below_drewN | apply below_drew1) | exact HB.out))) : w.heap.size ≤ gb255)); have n3_ := Aside0.mk ((by rw [hg]; exact (below_size (by repeat (first | (with_reducible first | exact HB.out | apply below_alloc | apply pw_below_drewN | apply below_drew1) | exact HB.out))) : w.heap.size ≤ gb255)); clear HB; have HB := n0_; have BK255 := n1_; have GW255 := n2_; have GE255 := n3_; clear n0_ n1_ n2_ n3_; clear hb hbox hg) | ((with_reducible refine gate_dst (N := 3) rfl ?_); refine box_event ?hg (N := 3) ?hd (cs := #[.bool a1_0, .int .i64 a1_1, .int .i64 a1_2, .int .i64 a1_3]) (t := 31) ?hr ?_; (case hd => rfl); (case hg => rfl); (case hr => first | (go_simp; done) | (go_simp; rfl)); intro gb256 hg w8 hbox hb; have n0_ := Aside0.mk (blk_below (g := gb255) (o := .cells #[.bool a0_0, .int .i64 a0_1, .int .i64 a0_2, .int .i64 a0_3] 31 (0, 0)) (by (with_reducible repeat (first | apply blk_drewN | apply blk_drew | apply blk_alloc)); exact BK255.out) hb); have n1_ := Aside0.mk (below_step (by repeat (first | (with_reducible first | exact HB.out | apply below_alloc | apply pw_below_drewN | apply below_drew1 | refine below_set ?_ GE255.out) | exact HB.out)) hb); have n2_ := Aside0.mk (hbox); have n3_ := Aside0.mk ((by rw [hg]; exact (below_size (by repeat (first | (with_reducible first | exact HB.out | apply below_alloc | apply pw_below_drewN | apply below_drew1 | refine below_set ?_ GE255.out) | exact HB.out))) : w.heap.size ≤ gb256)); have n4_ := Aside0.mk ((by rw [hg]; exact (below_size (by repeat (first | (with_reducible first | exact HB.out | apply below_alloc | apply pw_below_drewN | apply below_drew1 | refine below_set ?_ GE255.out) | exact HB.out))) : w.heap.size ≤ gb256)); have n5_ := Aside0.mk ((by rw [hg]; exact Nat.ne_of_lt (blk_lt (g := gb255) (o := .cells #[.bool a0_0, .int .i64 a0_1, .int .i64 a0_2, .int .i64 a0_3] 31 (0, 0)) (by (with_reducible repeat (first | apply blk_drewN | apply blk_drew | apply blk_alloc)); exact BK255.out)) : gb255 ≠ gb256)); have n6_ := Aside0.mk ((by rw [hg]; exact Nat.ne_of_gt (blk_lt (g := gb255) (o := .cells #[.bool a0_0, .int .i64 a0_1, .int .i64 a0_2, .int .i64 a0_3] 31 (0, 0)) (by (with_reducible repeat (first | apply blk_drewN | apply blk_drew | apply blk_alloc)); exact BK255.out)) : gb256 ≠ gb255)); clear BK255; clear HB; have BK255 := n0_; have HB := n1_; have BK256 := n2_; have GW256 := n3_; have GE256 := n4_; have NB255_256 := n5_; have NB256_255 := n6_; clear n0_ n1_ n2_ n3_ n4_ n5_ n6_; clear hb hbox hg; have hnb9 := NB255_256.out; have hnc9 := NB256_255.out; have hcz10_0 : w8.cell? ⟨gb255, 0, none⟩ = some (.bool a0_0) := (blk_cell BK255.out 0).trans rfl; have hcz10_1 : w8.cell? ⟨gb255, 1, none⟩ = some (.int .i64 a0_1) := (blk_cell BK255.out 1).trans rfl; have hcz10_2 : w8.cell? ⟨gb255, 2, none⟩ = some (.int .i64 a0_2) := (blk_cell BK255.out 2).trans rfl; have hcz10_3 : w8.cell? ⟨gb255, 3, none⟩ = some (.int .i64 a0_3) := (blk_cell BK255.out 3).trans rfl; have hfz10_0 := blk_frozen BK255.out 0; have hfz10_1 := blk_frozen BK255.out 1; have hfz10_2 := blk_frozen BK255.out 2; have hfz10_3 := blk_frozen BK255.out 3) | ((with_reducible refine gate_callee (f := 38) rfl ?_); refine goesL_ (some 6) rfl rfl Try.func38 (by kernel_rfl) rfl #[.agg #[.bool a0_0, .int .i64 a0_1, .int .i64 a0_2, .int .i64 a0_3]] rfl (by (try simp only [List.map_toArray, List.map_cons, List.map_nil]); first | done | rfl | (simp only [List.length_drop, List.length_take]; rfl)) ?_; (with_reducible refine (impl_PrefixOk.calls a0_0 a0_1 a0_2 a0_3 true _ A3.out).mono ?_); rintro e w11 ⟨rfl, hb⟩; refine ⟨_, rfl, ?_⟩; have n0_ := Aside0.mk (blk_below (g := gb255) (o := .cells #[.bool a0_0, .int .i64 a0_1, .int .i64 a0_2, .int .i64 a0_3] 31 (0, 0)) (by (with_reducible repeat (first | apply blk_drewN | apply blk_drew | apply blk_alloc)); exact BK255.out) hb); have n1_ := Aside0.mk (blk_below (g := gb256) (o := .cells #[.bool a1_0, .int .i64 a1_1, .int .i64 a1_2, .int .i64 a1_3] 31 (0, 0)) (by (with_reducible repeat (first | apply blk_drewN | apply blk_drew | apply blk_alloc)); exact BK256.out) hb); have n2_ := Aside0.mk (below_step (by repeat (first | (with_reducible first | exact HB.out | apply below_alloc | apply pw_below_drewN | apply below_drew1 | refine below_set ?_ GE255.out | refine below_set ?_ GE256.out) | exact HB.out)) hb); clear BK255; clear BK256; clear HB; have BK255 := n0_; have BK256 := n1_; have HB := n2_; clear n0_ n1_ n2_; (try clear hb); (try clear hb2); (try clear hk); (try clear hi); have hcz12_0 : w11.cell? ⟨gb256, 0, none⟩ = some (.bool a1_0) := (blk_cell BK256.out 0).trans rfl; have hcz12_1 : w11.cell? ⟨gb256, 1, none⟩ = some (.int .i64 a1_1) := (blk_cell BK256.out 1).trans rfl; have hcz12_2 : w11.cell? ⟨gb256, 2, none⟩ = some (.int .i64 a1_2) := (blk_cell BK256.out 2).trans rfl; have hcz12_3 : w11.cell? ⟨gb256, 3, none⟩ = some (.int .i64 a1_3) := (blk_cell BK256.out 3).trans rfl; have hfz12_0 := blk_frozen BK256.out 0; have hfz12_1 := blk_frozen BK256.out 1; have hfz12_2 := blk_frozen BK256.out 2; have hfz12_3 := blk_frozen BK256.out 3; have hcz13_0 : w11.cell? ⟨gb255, 0, none⟩ = some (.bool a0_0) := (blk_cell BK255.out 0).trans rfl; have hcz13_1 : w11.cell? ⟨gb255, 1, none⟩ = some (.int .i64 a0_1) := (blk_cell BK255.out 1).trans rfl; have hcz13_2 : w11.cell? ⟨gb255, 2, none⟩ = some (.int .i64 a0_2) := (blk_cell BK255.out 2).trans rfl; have hcz13_3 : w11.cell? ⟨gb255, 3, none⟩ = some (.int .i64 a0_3) := (blk_cell BK255.out 3).trans rfl; have hfz13_0 := blk_frozen BK255.out 0; have hfz13_1 := blk_frozen BK255.out 1; have hfz13_2 := blk_frozen BK255.out 2; have hfz13_3 := blk_frozen BK255.out 3) | (go_at_call 100; (with_reducible refine (impl_HasAddr.calls a1_0 a1_1 a1_2 a1_3 a0_0 a0_1 a0_2 true _ A5.out).mono ?_); rintro e w14 ⟨rfl, hb⟩; have n0_ := Aside0.mk (blk_below (g := gb255) (o := .cells #[.bool a0_0, .int .i64 a0_1, .int .i64 a0_2, .int .i64 a0_3] 31 (0, 0)) (by (with_reducible repeat (first | apply blk_drewN | apply blk_drew | apply blk_alloc)); exact BK255.out) hb); have n1_ := Aside0.mk (blk_below (g := gb256) (o := .cells #[.bool a1_0, .int .i64 a1_1, .int .i64 a1_2, .int .i64 a1_3] 31 (0, 0)) (by (with_reducible repeat (first | apply blk_drewN | apply blk_drew | apply blk_alloc)); exact BK256.out) hb); have n2_ := Aside0.mk (below_step (by repeat (first | (with_reducible first | exact HB.out | apply below_alloc | apply pw_below_drewN | apply below_drew1 | refine below_set ?_ GE255.out | refine below_set ?_ GE256.out) | exact HB.out)) hb); clear BK255; clear BK256; clear HB; have BK255 := n0_; have BK256 := n1_; have HB := n2_; clear n0_ n1_ n2_; (try clear hb); (try clear hb2); (try clear hk); (try clear hi); have hcz15_0 : w14.cell? ⟨gb255, 0, none⟩ = some (.bool a0_0) := (blk_cell BK255.out 0).trans rfl; have hcz15_1 : w14.cell? ⟨gb255, 1, none⟩ = some (.int .i64 a0_1) := (blk_cell BK255.out 1).trans rfl; have hcz15_2 : w14.cell? ⟨gb255, 2, none⟩ = some (.int .i64 a0_2) := (blk_cell BK255.out 2).trans rfl; have hcz15_3 : w14.cell? ⟨gb255, 3, none⟩ = some (.int .i64 a0_3) := (blk_cell BK255.out 3).trans rfl; have hfz15_0 := blk_frozen BK255.out 0; have hfz15_1 := blk_frozen BK255.out 1; have hfz15_2 := blk_frozen BK255.out 2; have hfz15_3 := blk_frozen BK255.out 3; have hcz16_0 : w14.cell? ⟨gb256, 0, none⟩ = some (.bool a1_0) := (blk_cell BK256.out 0).trans rfl; have hcz16_1 : w14.cell? ⟨gb256, 1, none⟩ = some (.int .i64 a1_1) := (blk_cell BK256.out 1).trans rfl; have hcz16_2 : w14.cell? ⟨gb256, 2, none⟩ = some (.int .i64 a1_2) := (blk_cell BK256.out 2).trans rfl; have hcz16_3 : w14.cell? ⟨gb256, 3, none⟩ = some (.int .i64 a1_3) := (blk_cell BK256.out 3).trans rfl; have hfz16_0 := blk_frozen BK256.out 0; have hfz16_1 := blk_frozen BK256.out 1; have hfz16_2 := blk_frozen BK256.out 2; have hfz16_3 := blk_frozen BK256.out 3))
   go_ret
   exact ⟨by first | rfl | (simp [errW_none, errW_some] <;> rfl) | (simp [*, errW_none, errW_some] <;> rfl), by repeat (first | (with_reducible first | exact HB.out | apply below_alloc | apply pw_below_drewN | apply below_drew1 | refine below_set ?_ GE255.out | refine below_set ?_ GE256.out) | exact HB.out)⟩
  ·replace c6 := Bool.eq_false_iff.mpr c6
   subst c6
   have H1 : (some false) = some r := by rw [if_neg (show ¬ (false = true) by decide)] at H; exact H
   clear H
   have H := H1
   clear H1
   obtain rfl := Option.some.inj H
   go_enter Try.func44, Try.ntmps44
   go_wp2_with (first | ((with_reducible refine gate_dst (N := 2) rfl ?_); refine box_event ?hg (N := 2) ?hd (cs := #[.bool a0_0, .int .i64 a0_1, .int .i64 a0_2, .int .i64 a0_3]) (t := 31) ?hr ?_; (case hd => rfl); (case hg => rfl); (case hr => first | (go_simp; done) | (go_simp; rfl)); intro gb255 hg w17 hbox hb; have n0_ := Aside0.mk (below_step (by repeat (first | (with_reducible first | exact HB.out | apply below_alloc | apply pw_below_drewN | apply below_drew1) | exact HB.out)) hb); have n1_ := Aside0.mk (hbox); have n2_ := Aside0.mk ((by rw [hg]; exact (below_size (by repeat (first | (with_reducible first | exact HB.out | apply below_alloc | apply pw_below_drewN | apply below_drew1) | exact HB.out))) : w.heap.size ≤ gb255)); have n3_ := Aside0.mk ((by rw [hg]; exact (below_size (by repeat (first | (with_reducible first | exact HB.out | apply below_alloc | apply pw_below_drewN | apply below_drew1) | exact HB.out))) : w.heap.size ≤ gb255)); clear HB; have HB := n0_; have BK255 := n1_; have GW255 := n2_; have GE255 := n3_; clear n0_ n1_ n2_ n3_; clear hb hbox hg) | ((with_reducible refine gate_dst (N := 3) rfl ?_); refine box_event ?hg (N := 3) ?hd (cs := #[.bool a1_0, .int .i64 a1_1, .int .i64 a1_2, .int .i64 a1_3]) (t := 31) ?hr ?_; (case hd => rfl); (case hg => rfl); (case hr => first | (go_simp; done) | (go_simp; rfl)); intro gb256 hg w18 hbox hb; have n0_ := Aside0.mk (blk_below (g := gb255) (o := .cells #[.bool a0_0, .int .i64 a0_1, .int .i64 a0_2, .int .i64 a0_3] 31 (0, 0)) (by (with_reducible repeat (first | apply blk_drewN | apply blk_drew | apply blk_alloc)); exact BK255.out) hb); have n1_ := Aside0.mk (below_step (by repeat (first | (with_reducible first | exact HB.out | apply below_alloc | apply pw_below_drewN | apply below_drew1 | refine below_set ?_ GE255.out) | exact HB.out)) hb); have n2_ := Aside0.mk (hbox); have n3_ := Aside0.mk ((by rw [hg]; exact (below_size (by repeat (first | (with_reducible first | exact HB.out | apply below_alloc | apply pw_below_drewN | apply below_drew1 | refine below_set ?_ GE255.out) | exact HB.out))) : w.heap.size ≤ gb256)); have n4_ := Aside0.mk ((by rw [hg]; exact (below_size (by repeat (first | (with_reducible first | exact HB.out | apply below_alloc | apply pw_below_drewN | apply below_drew1 | refine below_set ?_ GE255.out) | exact HB.out))) : w.heap.size ≤ gb256)); have n5_ := Aside0.mk ((by rw [hg]; exact Nat.ne_of_lt (blk_lt (g := gb255) (o := .cells #[.bool a0_0, .int .i64 a0_1, .int .i64 a0_2, .int .i64 a0_3] 31 (0, 0)) (by (with_reducible repeat (first | apply blk_drewN | apply blk_drew | apply blk_alloc)); exact BK255.out)) : gb255 ≠ gb256)); have n6_ := Aside0.mk ((by rw [hg]; exact Nat.ne_of_gt (blk_lt (g := gb255) (o := .cells #[.bool a0_0, .int .i64 a0_1, .int .i64 a0_2, .int .i64 a0_3] 31 (0, 0)) (by (with_reducible repeat (first | apply blk_drewN | apply blk_drew | apply blk_alloc)); exact BK255.out)) : gb256 ≠ gb255)); clear BK255; clear HB; have BK255 := n0_; have HB := n1_; have BK256 := n2_; have GW256 := n3_; have GE256 := n4_; have NB255_256 := n5_; have NB256_255 := n6_; clear n0_ n1_ n2_ n3_ n4_ n5_ n6_; clear hb hbox hg; have hnb19 := NB255_256.out; have hnc19 := NB256_255.out; have hcz20_0 : w18.cell? ⟨gb255, 0, none⟩ = some (.bool a0_0) := (blk_cell BK255.out 0).trans rfl; have hcz20_1 : w18.cell? ⟨gb255, 1, none⟩ = some (.int .i64 a0_1) := (blk_cell BK255.out 1).trans rfl; have hcz20_2 : w18.cell? ⟨gb255, 2, none⟩ = some (.int .i64 a0_2) := (blk_cell BK255.out 2).trans rfl; have hcz20_3 : w18.cell? ⟨gb255, 3, none⟩ = some (.int .i64 a0_3) := (blk_cell BK255.out 3).trans rfl; have hfz20_0 := blk_frozen BK255.out 0; have hfz20_1 := blk_frozen BK255.out 1; have hfz20_2 := blk_frozen BK255.out 2; have hfz20_3 := blk_frozen BK255.out 3) | ((with_reducible refine gate_callee (f := 38) rfl ?_); refine goesL_ (some 6) rfl rfl Try.func38 (by kernel_rfl) rfl #[.agg #[.bool a0_0, .int .i64 a0_1, .int .i64 a0_2, .int .i64 a0_3]] rfl (by (try simp only [List.map_toArray, List.map_cons, List.map_nil]); first | done | rfl | (simp only [List.length_drop, List.length_take]; rfl)) ?_; (with_reducible refine (impl_PrefixOk.calls a0_0 a0_1 a0_2 a0_3 true _ A3.out).mono ?_); rintro e w21 ⟨rfl, hb⟩; refine ⟨_, rfl, ?_⟩; have n0_ := Aside0.mk (blk_below (g := gb255) (o := .cells #[.bool a0_0, .int .i64 a0_1, .int .i64 a0_2, .int .i64 a0_3] 31 (0, 0)) (by (with_reducible repeat (first | apply blk_drewN | apply blk_drew | apply blk_alloc)); exact BK255.out) hb); have n1_ := Aside0.mk (blk_below (g := gb256) (o := .cells #[.bool a1_0, .int .i64 a1_1, .int .i64 a1_2, .int .i64 a1_3] 31 (0, 0)) (by (with_reducible repeat (first | apply blk_drewN | apply blk_drew | apply blk_alloc)); exact BK256.out) hb); have n2_ := Aside0.mk (below_step (by repeat (first | (with_reducible first | exact HB.out | apply below_alloc | apply pw_below_drewN | apply below_drew1 | refine below_set ?_ GE255.out | refine below_set ?_ GE256.out) | exact HB.out)) hb); clear BK255; clear BK256; clear HB; have BK255 := n0_; have BK256 := n1_; have HB := n2_; clear n0_ n1_ n2_; (try clear hb); (try clear hb2); (try clear hk); (try clear hi); have hcz22_0 : w21.cell? ⟨gb256, 0, none⟩ = some (.bool a1_0) := (blk_cell BK256.out 0).trans rfl; have hcz22_1 : w21.cell? ⟨gb256, 1, none⟩ = some (.int .i64 a1_1) := (blk_cell BK256.out 1).trans rfl; have hcz22_2 : w21.cell? ⟨gb256, 2, none⟩ = some (.int .i64 a1_2) := (blk_cell BK256.out 2).trans rfl; have hcz22_3 : w21.cell? ⟨gb256, 3, none⟩ = some (.int .i64 a1_3) := (blk_cell BK256.out 3).trans rfl; have hfz22_0 := blk_frozen BK256.out 0; have hfz22_1 := blk_frozen BK256.out 1; have hfz22_2 := blk_frozen BK256.out 2; have hfz22_3 := blk_frozen BK256.out 3; have hcz23_0 : w21.cell? ⟨gb255, 0, none⟩ = some (.bool a0_0) := (blk_cell BK255.out 0).trans rfl; have hcz23_1 : w21.cell? ⟨gb255, 1, none⟩ = some (.int .i64 a0_1) := (blk_cell BK255.out 1).trans rfl; have hcz23_2 : w21.cell? ⟨gb255, 2, none⟩ = some (.int .i64 a0_2) := (blk_cell BK255.out 2).trans rfl; have hcz23_3 : w21.cell? ⟨gb255, 3, none⟩ = some (.int .i64 a0_3) := (blk_cell BK255.out 3).trans rfl; have hfz23_0 := blk_frozen BK255.out 0; have hfz23_1 := blk_frozen BK255.out 1; have hfz23_2 := blk_frozen BK255.out 2; have hfz23_3 := blk_frozen BK255.out 3) | (go_at_call 100; (with_reducible refine (impl_HasAddr.calls a1_0 a1_1 a1_2 a1_3 a0_0 a0_1 a0_2 false _ A5.out).mono ?_); rintro e w24 ⟨rfl, hb⟩; have n0_ := Aside0.mk (blk_below (g := gb255) (o := .cells #[.bool a0_0, .int .i64 a0_1, .int .i64 a0_2, .int .i64 a0_3] 31 (0, 0)) (by (with_reducible repeat (first | apply blk_drewN | apply blk_drew | apply blk_alloc)); exact BK255.out) hb); have n1_ := Aside0.mk (blk_below (g := gb256) (o := .cells #[.bool a1_0, .int .i64 a1_1, .int .i64 a1_2, .int .i64 a1_3] 31 (0, 0)) (by (with_reducible repeat (first | apply blk_drewN | apply blk_drew | apply blk_alloc)); exact BK256.out) hb); have n2_ := Aside0.mk (below_step (by repeat (first | (with_reducible first | exact HB.out | apply below_alloc | apply pw_below_drewN | apply below_drew1 | refine below_set ?_ GE255.out | refine below_set ?_ GE256.out) | exact HB.out)) hb); clear BK255; clear BK256; clear HB; have BK255 := n0_; have BK256 := n1_; have HB := n2_; clear n0_ n1_ n2_; (try clear hb); (try clear hb2); (try clear hk); (try clear hi)))
   go_ret
   exact ⟨by first | rfl | (simp [errW_none, errW_some] <;> rfl) | (simp [*, errW_none, errW_some] <;> rfl), by repeat (first | (with_reducible first | exact HB.out | apply below_alloc | apply pw_below_drewN | apply below_drew1 | refine below_set ?_ GE255.out | refine below_set ?_ GE256.out) | exact HB.out)⟩
 ·replace c4 := Bool.eq_false_iff.mpr c4
  subst c4
  have H1 : (some false) = some r := by rw [if_neg (show ¬ (false = true) by decide)] at H; exact H
  clear H
  have H := H1
  clear H1
  obtain rfl := Option.some.inj H
  go_enter Try.func44, Try.ntmps44
  go_wp2_with (first | ((with_reducible refine gate_dst (N := 2) rfl ?_); refine box_event ?hg (N := 2) ?hd (cs := #[.bool a0_0, .int .i64 a0_1, .int .i64 a0_2, .int .i64 a0_3]) (t := 31) ?hr ?_; (case hd => rfl); (case hg => rfl); (case hr => first | (go_simp; done) | (go_simp; rfl)); intro gb255 hg w25 hbox hb; have n0_ := Aside0.mk (below_step (by repeat (first | (with_reducible first | exact HB.out | apply below_alloc | apply pw_below_drewN | apply below_drew1) | exact HB.out)) hb); have n1_ := Aside0.mk (hbox); have n2_ := Aside0.mk ((by rw [hg]; exact (below_size (by repeat (first | (with_reducible first | exact HB.out | apply below_alloc | apply pw_below_drewN | apply below_drew1) | exact HB.out))) : w.heap.size ≤ gb255)); have n3_ := Aside0.mk ((by rw [hg]; exact (below_size (by repeat (first | (with_reducible first | exact HB.out | apply below_alloc | apply pw_below_drewN | apply below_drew1) | exact HB.out))) : w.heap.size ≤ gb255)); clear HB; have HB := n0_; have BK255 := n1_; have GW255 := n2_; have GE255 := n3_; clear n0_ n1_ n2_ n3_; clear hb hbox hg) | ((with_reducible refine gate_dst (N := 3) rfl ?_); refine box_event ?hg (N := 3) ?hd (cs := #[.bool a1_0, .int .i64 a1_1, .int .i64 a1_2, .int .i64 a1_3]) (t := 31) ?hr ?_; (case hd => rfl); (case hg => rfl); (case hr => first | (go_simp; done) | (go_simp; rfl)); intro gb256 hg w26 hbox hb; have n0_ := Aside0.mk (blk_below (g := gb255) (o := .cells #[.bool a0_0, .int .i64 a0_1, .int .i64 a0_2, .int .i64 a0_3] 31 (0, 0)) (by (with_reducible repeat (first | apply blk_drewN | apply blk_drew | apply blk_alloc)); exact BK255.out) hb); have n1_ := Aside0.mk (below_step (by repeat (first | (with_reducible first | exact HB.out | apply below_alloc | apply pw_below_drewN | apply below_drew1 | refine below_set ?_ GE255.out) | exact HB.out)) hb); have n2_ := Aside0.mk (hbox); have n3_ := Aside0.mk ((by rw [hg]; exact (below_size (by repeat (first | (with_reducible first | exact HB.out | apply below_alloc | apply pw_below_drewN | apply below_drew1 | refine below_set ?_ GE255.out) | exact HB.out))) : w.heap.size ≤ gb256)); have n4_ := Aside0.mk ((by rw [hg]; exact (below_size (by repeat (first | (with_reducible first | exact HB.out | apply below_alloc | apply pw_below_drewN | apply below_drew1 | refine below_set ?_ GE255.out) | exact HB.out))) : w.heap.size ≤ gb256)); have n5_ := Aside0.mk ((by rw [hg]; exact Nat.ne_of_lt (blk_lt (g := gb255) (o := .cells #[.bool a0_0, .int .i64 a0_1, .int .i64 a0_2, .int .i64 a0_3] 31 (0, 0)) (by (with_reducible repeat (first | apply blk_drewN | apply blk_drew | apply blk_alloc)); exact BK255.out)) : gb255 ≠ gb256)); have n6_ := Aside0.mk ((by rw [hg]; exact Nat.ne_of_gt (blk_lt (g := gb255) (o := .cells #[.bool a0_0, .int .i64 a0_1, .int .i64 a0_2, .int .i64 a0_3] 31 (0, 0)) (by (with_reducible repeat (first | apply blk_drewN | apply blk_drew | apply blk_alloc)); exact BK255.out)) : gb256 ≠ gb255)); clear BK255; clear HB; have BK255 := n0_; have HB := n1_; have BK256 := n2_; have GW256 := n3_; have GE256 := n4_; have NB255_256 := n5_; have NB256_255 := n6_; clear n0_ n1_ n2_ n3_ n4_ n5_ n6_; clear hb hbox hg; have hnb27 := NB255_256.out; have hnc27 := NB256_255.out; have hcz28_0 : w26.cell? ⟨gb255, 0, none⟩ = some (.bool a0_0) := (blk_cell BK255.out 0).trans rfl; have hcz28_1 : w26.cell? ⟨gb255, 1, none⟩ = some (.int .i64 a0_1) := (blk_cell BK255.out 1).trans rfl; have hcz28_2 : w26.cell? ⟨gb255, 2, none⟩ = some (.int .i64 a0_2) := (blk_cell BK255.out 2).trans rfl; have hcz28_3 : w26.cell? ⟨gb255, 3, none⟩ = some (.int .i64 a0_3) := (blk_cell BK255.out 3).trans rfl; have hfz28_0 := blk_frozen BK255.out 0; have hfz28_1 := blk_frozen BK255.out 1; have hfz28_2 := blk_frozen BK255.out 2; have hfz28_3 := blk_frozen BK255.out 3) | ((with_reducible refine gate_callee (f := 38) rfl ?_); refine goesL_ (some 6) rfl rfl Try.func38 (by kernel_rfl) rfl #[.agg #[.bool a0_0, .int .i64 a0_1, .int .i64 a0_2, .int .i64 a0_3]] rfl (by (try simp only [List.map_toArray, List.map_cons, List.map_nil]); first | done | rfl | (simp only [List.length_drop, List.length_take]; rfl)) ?_; (with_reducible refine (impl_PrefixOk.calls a0_0 a0_1 a0_2 a0_3 false _ A3.out).mono ?_); rintro e w29 ⟨rfl, hb⟩; refine ⟨_, rfl, ?_⟩; have n0_ := Aside0.mk (blk_below (g := gb255) (o := .cells #[.bool a0_0, .int .i64 a0_1, .int .i64 a0_2, .int .i64 a0_3] 31 (0, 0)) (by (with_reducible repeat (first | apply blk_drewN | apply blk_drew | apply blk_alloc)); exact BK255.out) hb); have n1_ := Aside0.mk (blk_below (g := gb256) (o := .cells #[.bool a1_0, .int .i64 a1_1, .int .i64 a1_2, .int .i64 a1_3] 31 (0, 0)) (by (with_reducible repeat (first | apply blk_drewN | apply blk_drew | apply blk_alloc)); exact BK256.out) hb); have n2_ := Aside0.mk (below_step (by repeat (first | (with_reducible first | exact HB.out | apply below_alloc | apply pw_below_drewN | apply below_drew1 | refine below_set ?_ GE255.out | refine below_set ?_ GE256.out) | exact HB.out)) hb); clear BK255; clear BK256; clear HB; have BK255 := n0_; have BK256 := n1_; have HB := n2_; clear n0_ n1_ n2_; (try clear hb); (try clear hb2); (try clear hk); (try clear hi)))
  go_ret
  exact ⟨by first | rfl | (simp [errW_none, errW_some] <;> rfl) | (simp [*, errW_none, errW_some] <;> rfl), by repeat (first | (with_reducible first | exact HB.out | apply below_alloc | apply pw_below_drewN | apply below_drew1 | refine below_set ?_ GE255.out | refine below_set ?_ GE256.out) | exact HB.out)⟩

/-! ### impl_without: function 76 -/
mutual
def impl_without.l0 : Nat → List (S31) → List (S31) → Int → Int → Bool → Int → Int → Int → Option ((List (S31)))
 | 0, _, _, _, _, _, _, _, _ => none
 | k + 1, x5, x12, x13, x14, x260000, x260001, x260002, x260003 => if x14 < x13 then (if 0 ≤ x14 then (if x14 < (x12.length : Int) then ((impl_Within.f x260000 x260001 x260002 x260003 ((rd_T31 x12 x14).f0.f0) ((rd_T31 x12 x14).f0.f1) ((rd_T31 x12 x14).f0.f2) ((rd_T31 x12 x14).f1)).bind fun t265 => (if t265 = true then (some ([] : List (S31))) else ((impl_Within.f ((rd_T31 x12 x14).f0.f0) ((rd_T31 x12 x14).f0.f1) ((rd_T31 x12 x14).f0.f2) ((rd_T31 x12 x14).f1) x260000 x260001 x260002 x260003).bind fun t266 => (if t266 = true then (if x5.length < 4398046511104 then (impl_without.l0 k (x5 ++ [(⟨(⟨(rd_T31 x12 x14).f0.f0, (rd_T31 x12 x14).f0.f1, (rd_T31 x12 x14).f0.f2⟩ : S29), (rd_T31 x12 x14).f1⟩ : S31)]) x12 x13 (wrap64 (x14 + 1)) x260000 x260001 x260002 x260003) else (none)) else (impl_without.l0 k x5 x12 x13 (wrap64 (x14 + 1)) x260000 x260001 x260002 x260003))))) else (none)) else (none)) else (if (x5.length : Int) = 0 then (some (([(⟨(⟨x260000, x260001, x260002⟩ : S29), x260003⟩ : S31)] : List (S31)))) else ((impl_Halves.f x260000 x260001 x260002 x260003).bind fun bt273 => ((impl_without.f k bt273.1 bt273.2.1 bt273.2.2.1 bt273.2.2.2.1 x5).bind fun t284 => ((impl_without.f k bt273.2.2.2.2.1 bt273.2.2.2.2.2.1 bt273.2.2.2.2.2.2.1 bt273.2.2.2.2.2.2.2.1 x5).bind fun t287 => (if t284.length + t287.length < 4398046511104 then (some (t284 ++ t287)) else (none))))))
def impl_without.f : Nat → Bool → Int → Int → Int → List (S31) → Option ((List (S31)))
 | 0, _, _, _, _, _ => none
 | k + 1, a0_0, a0_1, a0_2, a0_3, l1 => impl_without.l0 k (([] : List (S31))) l1 (l1.length : Int) 0 a0_0 a0_1 a0_2 a0_3
end
theorem impl_without.mono_l : ∀ k, (∀ y0 y1 y2 y3 y4, LeO (impl_without.f k y0 y1 y2 y3 y4) (impl_without.f (k + 1) y0 y1 y2 y3 y4)) ∧ (∀ y0 y1 y2 y3 y4 y5 y6 y7, LeO (impl_without.l0 k y0 y1 y2 y3 y4 y5 y6 y7) (impl_without.l0 (k + 1) y0 y1 y2 y3 y4 y5 y6 y7))
 | 0 => ⟨fun _ _ _ _ _ r h => by simp [impl_without.f] at h, fun _ _ _ _ _ _ _ _ r h => by simp [impl_without.l0] at h⟩
 | k + 1 => by
  obtain ⟨ih0, ih1⟩ := impl_without.mono_l k
  refine ⟨?_, ?_⟩
  ·intro y0 y1 y2 y3 y4
   unfold impl_without.f
   repeat' first
   | (with_reducible exact ih0 _ _ _ _ _)
   | (with_reducible exact ih1 _ _ _ _ _ _ _ _)
   | (with_reducible exact LeO.refl _)
   | (with_reducible exact LeO.none _)
   | (with_reducible refine LeO.ite ?_ ?_)
   | (with_reducible refine LeO.bind ?_ (fun _ => ?_))
   | exact ih0 _ _ _ _ _
   | exact ih1 _ _ _ _ _ _ _ _
   | exact LeO.none _
   | refine LeO.ite ?_ ?_
   | refine LeO.bind ?_ (fun _ => ?_)
  ·intro y0 y1 y2 y3 y4 y5 y6 y7
   unfold impl_without.l0
   repeat' first
   | (with_reducible exact ih0 _ _ _ _ _)
   | (with_reducible exact ih1 _ _ _ _ _ _ _ _)
   | (with_reducible exact LeO.refl _)
   | (with_reducible exact LeO.none _)
   | (with_reducible refine LeO.ite ?_ ?_)
   | (with_reducible refine LeO.bind ?_ (fun _ => ?_))
   | exact ih0 _ _ _ _ _
   | exact ih1 _ _ _ _ _ _ _ _
   | exact LeO.none _
   | refine LeO.ite ?_ ?_
   | refine LeO.bind ?_ (fun _ => ?_)
theorem impl_without.mono : ∀ a0 a1 a2 a3 a4 k, LeO (impl_without.f k a0 a1 a2 a3 a4) (impl_without.f (k + 1) a0 a1 a2 a3 a4) := by
 intro a0 a1 a2 a3 a4 k
 obtain ⟨ih0, ih1⟩ := impl_without.mono_l k
 exact ih0 a0 a1 a2 a3 a4
def impl_without.T13 : Bool × List (List Nat × List Nat) := (true, [([], []), ([], []), ([0, 1], [0, 1]), ([], []), ([], []), ([3, 4, 2], [3, 4]), ([2, 5, 5], [2, 5]), ([6, 6, 0, 1, 2, 3, 4, 5, 6], [6])])
def impl_without.B13 : List Nat := [0, 0, 3, 0, 0, 31, 63, 127]
theorem impl_without.tab13 : rtab .any (opsOf Try.f76 13) = impl_without.T13 := by kernel_rfl
theorem impl_without.bits13 : waitsOk impl_without.T13.2 impl_without.B13 = true := by kernel_rfl
set_option maxHeartbeats 8000000 in
set_option maxRecDepth 100000 in
theorem impl_without.calls (k : Nat) : ∀ (a0_0 : Bool) (a0_1 : Int) (a0_2 : Int) (a0_3 : Int) (A1 : Option Addr) (c1 : Nat) (l1 : List (S31)) (r : List (S31)) (w : World) (hr1 : Kd.C k31 w A1 l1.length l1) (hc1 : l1.length ≤ c1) (h : impl_without.f k a0_0 a0_1 a0_2 a0_3 l1 = some r),
  Calls Try.prog 76 #[.agg #[.bool a0_0, .int .i64 a0_1, .int .i64 a0_2, .int .i64 a0_3], .slice A1 l1.length c1] w fun e w' => ∃ v0_ : Value, e = .returned (v0_) ∧ Kd.R k31 31 w' w.heap.size (fun _ => True) v0_ r ∧ Below w.heap.size w w' := by
 induction k using Nat.strongRecOn with
 | _ k ih =>
 intro a0_0 a0_1 a0_2 a0_3 A1 c1 l1 r w hr1 hc1 h
 cases k with
 | zero => exact absurd h (by simp [impl_without.f])
 | succ k =>
 simp only [impl_without.f] at h
 have hu31 := Try.underlying31
 have HR1 := Aside0.mk hr1
 have HC1 := Aside0.mk hc1
 clear hr1 hc1
 have HB := Aside0.mk (Below.refl w.heap.size w)
 have H : (impl_without.l0 k (([] : List (S31))) l1 (l1.length : Int) 0 a0_0 a0_1 a0_2 a0_3) = some r := h
 clear h
 obtain ⟨y260, hy260⟩ : ∃ y_ : List (S31), y_ = (([] : List (S31))) := ⟨_, rfl⟩
 replace H : (impl_without.l0 k y260 l1 (l1.length : Int) 0 a0_0 a0_1 a0_2 a0_3) = some r := by first | (rw [hy260]; with_reducible exact H) | (have H2_ := (Option.bind_some _ _).symm.trans H; rw [hy260]; with_reducible exact H2_) | (have H2_ := (Option.bind_some _ _).symm.trans H; with_reducible exact H2_) | with_reducible exact H | (rw [hy260]; exact H) | exact H
 have Ny260 := Aside0.mk hy260
 clear hy260
 have H' := Aside0.mk H
 clear H
 go_enter Try.func76, Try.ntmps76
 go_wp2_with (first | ((with_reducible refine gate_dst (N := 2) rfl ?_); refine box_event ?hg (N := 2) ?hd (cs := #[.bool a0_0, .int .i64 a0_1, .int .i64 a0_2, .int .i64 a0_3]) (t := 31) ?hr ?_; (case hd => rfl); (case hg => rfl); (case hr => first | (go_simp; done) | (go_simp; rfl)); intro gb259 hg w3 hbox hb; have n0_ := Aside0.mk (below_step (by repeat (first | (with_reducible first | exact HB.out | apply below_alloc | apply pw_below_drewN | apply below_drew1) | exact HB.out)) hb); have n1_ := Aside0.mk (hbox); have n2_ := Aside0.mk ((by rw [hg]; exact (below_size (by repeat (first | (with_reducible first | exact HB.out | apply below_alloc | apply pw_below_drewN | apply below_drew1) | exact HB.out))) : w.heap.size ≤ gb259)); have n3_ := Aside0.mk ((by rw [hg]; exact (below_size (by repeat (first | (with_reducible first | exact HB.out | apply below_alloc | apply pw_below_drewN | apply below_drew1) | exact HB.out))) : w.heap.size ≤ gb259)); clear HB; have HB := n0_; have BK259 := n1_; have GW259 := n2_; have GE259 := n3_; clear n0_ n1_ n2_ n3_; clear hb hbox hg) | ((with_reducible refine gate_dst (N := 11) rfl ?_); refine Kd.R_lit k31 _ 31 ?hg (N := 11) ?hd (xs := ([] : List (S31))) (inner := []) (ok := fun _ => True) (okp := fun _ => True) ?hr ?hp (fun _ hk => hk) trivial (Below.refl _ _) (Nat.le_refl _) (by simp) ?_; (case hd => rfl); (case hg => rfl); (case hr => first | (go_simp; done) | (go_simp; rfl)); (case hp => exact (Reps.none _ _)); intro v261 w4 ho5 hb hg_ hnew_; clear hg_ hnew_; (first | rw [← Ny260.out] at ho5 | (simp only [Int.reduceToNat] at ho5; rw [← Ny260.out] at ho5)); have n0_ := Aside0.mk (Kd.R_lower (Kd.R_newB ho5 (g := gb259) (o := .cells #[.bool a0_0, .int .i64 a0_1, .int .i64 a0_2, .int .i64 a0_3] 31 (0, 0)) (by (with_reducible repeat (first | apply blk_drewN | apply blk_drew | apply blk_alloc)); exact BK259.out)) (below_size (by repeat (first | (with_reducible first | exact HB.out | apply below_alloc | apply pw_below_drewN | apply below_drew1 | refine below_set ?_ GE259.out) | exact HB.out)))); have n1_ := Aside0.mk (blk_below (g := gb259) (o := .cells #[.bool a0_0, .int .i64 a0_1, .int .i64 a0_2, .int .i64 a0_3] 31 (0, 0)) (by (with_reducible repeat (first | apply blk_drewN | apply blk_drew | apply blk_alloc)); exact BK259.out) hb); have n2_ := Aside0.mk (below_step (by repeat (first | (with_reducible first | exact HB.out | apply below_alloc | apply pw_below_drewN | apply below_drew1 | refine below_set ?_ GE259.out) | exact HB.out)) hb); clear BK259; clear HB; have HO262 := n0_; have BK259 := n1_; have HB := n2_; clear n0_ n1_ n2_; clear hb ho5))
 go_loopg [5, 14] k (fun kq v5 v14 w' => ∃ (x5_1 : List (S31)) (x14_1 : Int), v14 = .int .i64 x14_1 ∧ Aside0 (impl_without.l0 kq x5_1 l1 (l1.length : Int) x14_1 a0_0 a0_1 a0_2 a0_3 = some r) ∧ Aside0 (kq ≤ k) ∧ Aside0 (Kd.R k31 31 w' w.heap.size (fun k_ => k_ ≠ gb259) v5 x5_1) ∧ Aside0 (w'.heap[gb259]? = some (.cells #[.bool a0_0, .int .i64 a0_1, .int .i64 a0_2, .int .i64 a0_3] 31 (0, 0))) ∧ Aside0 (Below w.heap.size w w'))
 case atStart => exact ⟨(y260), (0), (by first | rfl | (simp; done) | (simp [*]; done)), H', ⟨Nat.le_refl _⟩, ⟨by (with_reducible repeat (first | apply Kd.R_alloc | apply Kd.R_drewN | apply Kd.R_drew)); exact Kd.R_mono HO262.out (fun _ hk => hk.2)⟩, ⟨by (with_reducible repeat (first | apply blk_drewN | apply blk_drew | apply blk_alloc)); exact BK259.out⟩, ⟨by repeat (first | (with_reducible first | exact HB.out | apply below_alloc | apply pw_below_drewN | apply below_drew1 | refine below_set ?_ GE259.out) | exact HB.out)⟩⟩
 case round =>
  clear H'
  try clear c1
  try clear p2
  obtain ⟨x5_1, x14_1, rfl, HA, HK1, HO_5, BK259, HB⟩ := hrel
  cases gk with
  | zero => exact absurd HA.out (by simp [impl_without.l0])
  | succ k1 =>
   have H := HA.out
   clear HA
   simp only [impl_without.l0] at H
   by_cases c6 : x14_1 < (l1.length : Int)
   ·rw [if_pos c6] at H
    have c6b0 : decide (x14_1 < (l1.length : Int)) = true := decide_eq_true c6
    clear c6
    by_cases c7 : 0 ≤ x14_1
    ·rw [if_pos c7] at H
     have c7b0 : decide (0 ≤ x14_1) = true := decide_eq_true c7
     clear c7
     by_cases c8 : x14_1 < (l1.length : Int)
     ·rw [if_pos c8] at H
      have c8b0 : decide (x14_1 < (l1.length : Int)) = true := decide_eq_true c8
      clear c8
      replace H := Option.bind_eq_some_iff.mp H
      obtain ⟨t265, A90, H⟩ := H
      replace H : (if t265 = true then (some ([] : List (S31))) else ((impl_Within.f ((rd_T31 l1 x14_1).f0.f0) ((rd_T31 l1 x14_1).f0.f1) ((rd_T31 l1 x14_1).f0.f2) ((rd_T31 l1 x14_1).f1) a0_0 a0_1 a0_2 a0_3).bind fun t266 => (if t266 = true then (if x5_1.length < 4398046511104 then (impl_without.l0 k1 (x5_1 ++ [(⟨(⟨(rd_T31 l1 x14_1).f0.f0, (rd_T31 l1 x14_1).f0.f1, (rd_T31 l1 x14_1).f0.f2⟩ : S29), (rd_T31 l1 x14_1).f1⟩ : S31)]) l1 (l1.length : Int) (wrap64 (x14_1 + 1)) a0_0 a0_1 a0_2 a0_3) else (none)) else (impl_without.l0 k1 x5_1 l1 (l1.length : Int) (wrap64 (x14_1 + 1)) a0_0 a0_1 a0_2 a0_3)))) = some r := H
      have A9 := Aside0.mk A90
      clear A90
      by_cases c10 : t265 = true
      ·subst c10
       have H1 : (some ([] : List (S31))) = some r := by rw [if_pos rfl] at H; exact H
       clear H
       have H := H1
       clear H1
       obtain rfl := Option.some.inj H
       have p263 : 0 ≤ (x14_1 : Int) := of_decide_eq_true (by first | (with_reducible assumption) | assumption)
       have q263 : x14_1 < (l1.length : Int) := of_decide_eq_true (by first | (with_reducible assumption) | assumption)
       obtain ⟨ad263, e263, hx263_0, hx263_1, hx263_2, hx263_3⟩ := at_T31 HR1.out x14_1 p263 q263
       cases e263
       replace hx263_0 := (HB.out.cell (World.block_lt_of_cell? w _ hx263_0)).trans hx263_0
       replace hx263_1 := (HB.out.cell (World.block_lt_of_cell? w _ hx263_1)).trans hx263_1
       replace hx263_2 := (HB.out.cell (World.block_lt_of_cell? w _ hx263_2)).trans hx263_2
       replace hx263_3 := (HB.out.cell (World.block_lt_of_cell? w _ hx263_3)).trans hx263_3
       replace p263 := eq_true p263
       replace q263 := eq_true q263
       go_wp2_with (first | ((with_reducible refine gate_dst (N := 7) rfl ?_); refine box_event ?hg (N := 7) ?hd (cs := #[.bool false, .int .i64 0, .int .i64 0, .int .i64 0]) (t := 31) ?hr ?_; (case hd => rfl); (case hg => rfl); (case hr => first | (go_simp; done) | (go_simp; rfl)); intro gb264 hg w11 hbox hb; have n0_ := Aside0.mk (Kd.R_below (Kd.R_elderB (by (with_reducible repeat (first | apply Kd.R_alloc | apply Kd.R_drewN | apply Kd.R_drew)); exact HO_5.out) gb264 (Nat.le_of_eq hg.symm)) hb); have n1_ := Aside0.mk (blk_below (g := gb259) (o := .cells #[.bool a0_0, .int .i64 a0_1, .int .i64 a0_2, .int .i64 a0_3] 31 (0, 0)) (by (with_reducible repeat (first | apply blk_drewN | apply blk_drew | apply blk_alloc)); exact BK259.out) hb); have n2_ := Aside0.mk (below_step (by repeat (first | (with_reducible first | exact HB.out | apply below_alloc | apply pw_below_drewN | apply below_drew1 | refine below_set ?_ GE259.out) | exact HB.out)) hb); have n3_ := Aside0.mk (hbox); have n4_ := Aside0.mk ((by rw [hg]; exact (below_size (by repeat (first | (with_reducible first | exact HB.out | apply below_alloc | apply pw_below_drewN | apply below_drew1 | refine below_set ?_ GE259.out) | exact HB.out))) : w.heap.size ≤ gb264)); have n5_ := Aside0.mk ((by rw [hg]; exact (below_size (by repeat (first | (with_reducible first | exact HB.out | apply below_alloc | apply pw_below_drewN | apply below_drew1 | refine below_set ?_ GE259.out) | exact HB.out))) : w.heap.size ≤ gb264)); have n6_ := Aside0.mk ((by rw [hg]; exact Nat.ne_of_lt (blk_lt (g := gb259) (o := .cells #[.bool a0_0, .int .i64 a0_1, .int .i64 a0_2, .int .i64 a0_3] 31 (0, 0)) (by (with_reducible repeat (first | apply blk_drewN | apply blk_drew | apply blk_alloc)); exact BK259.out)) : gb259 ≠ gb264)); have n7_ := Aside0.mk ((by rw [hg]; exact Nat.ne_of_gt (blk_lt (g := gb259) (o := .cells #[.bool a0_0, .int .i64 a0_1, .int .i64 a0_2, .int .i64 a0_3] 31 (0, 0)) (by (with_reducible repeat (first | apply blk_drewN | apply blk_drew | apply blk_alloc)); exact BK259.out)) : gb264 ≠ gb259)); clear HO_5; clear BK259; clear HB; have HO_5 := n0_; have BK259 := n1_; have HB := n2_; have BK264 := n3_; have GW264 := n4_; have GE264 := n5_; have NB259_264 := n6_; have NB264_259 := n7_; clear n0_ n1_ n2_ n3_ n4_ n5_ n6_ n7_; clear hb hbox hg; have hnb12 := NB264_259.out; have hnc12 := NB259_264.out; have hcz13_0 : w11.cell? ⟨gb264, 0, none⟩ = some (.bool false) := (blk_cell BK264.out 0).trans rfl; have hcz13_1 : w11.cell? ⟨gb264, 1, none⟩ = some (.int .i64 0) := (blk_cell BK264.out 1).trans rfl; have hcz13_2 : w11.cell? ⟨gb264, 2, none⟩ = some (.int .i64 0) := (blk_cell BK264.out 2).trans rfl; have hcz13_3 : w11.cell? ⟨gb264, 3, none⟩ = some (.int .i64 0) := (blk_cell BK264.out 3).trans rfl; have hfz13_0 := blk_frozen BK264.out 0; have hfz13_1 := blk_frozen BK264.out 1; have hfz13_2 := blk_frozen BK264.out 2; have hfz13_3 := blk_frozen BK264.out 3; have hcz14_0 : w11.cell? ⟨gb259, 0, none⟩ = some (.bool a0_0) := (blk_cell BK259.out 0).trans rfl; have hcz14_1 : w11.cell? ⟨gb259, 1, none⟩ = some (.int .i64 a0_1) := (blk_cell BK259.out 1).trans rfl; have hcz14_2 : w11.cell? ⟨gb259, 2, none⟩ = some (.int .i64 a0_2) := (blk_cell BK259.out 2).trans rfl; have hcz14_3 : w11.cell? ⟨gb259, 3, none⟩ = some (.int .i64 a0_3) := (blk_cell BK259.out 3).trans rfl; have hfz14_0 := blk_frozen BK259.out 0; have hfz14_1 := blk_frozen BK259.out 1; have hfz14_2 := blk_frozen BK259.out 2; have hfz14_3 := blk_frozen BK259.out 3) | ((with_reducible refine gate_callee (f := 44) rfl ?_); refine goesL_ (some 20) rfl rfl Try.func44 (by kernel_rfl) rfl #[.agg #[.bool a0_0, .int .i64 a0_1, .int .i64 a0_2, .int .i64 a0_3], .agg #[.bool ((rd_T31 l1 x14_1).f0.f0), .int .i64 ((rd_T31 l1 x14_1).f0.f1), .int .i64 ((rd_T31 l1 x14_1).f0.f2), .int .i64 ((rd_T31 l1 x14_1).f1)]] rfl (by (try simp only [List.map_toArray, List.map_cons, List.map_nil]); first | done | rfl | (simp only [List.length_drop, List.length_take]; rfl)) ?_; (with_reducible refine (impl_Within.calls a0_0 a0_1 a0_2 a0_3 ((rd_T31 l1 x14_1).f0.f0) ((rd_T31 l1 x14_1).f0.f1) ((rd_T31 l1 x14_1).f0.f2) ((rd_T31 l1 x14_1).f1) true _ A9.out).mono ?_); rintro e w15 ⟨rfl, hb⟩; refine ⟨_, rfl, ?_⟩; have n0_ := Aside0.mk (Kd.R_below (by (with_reducible repeat (first | apply Kd.R_alloc | apply Kd.R_drewN | apply Kd.R_drew)); exact (Kd.R_mono (Kd.R_far (p := ⟨gb264, 3, none⟩) (Kd.R_far (p := ⟨gb264, 2, none⟩) (Kd.R_far (p := ⟨gb264, 1, none⟩) (Kd.R_far (p := ⟨gb264, 0, none⟩) (Kd.R_mono HO_5.out (fun k_ hk => (⟨hk, hk.2⟩ : _ ∧ k_ ≠ gb264))) (fun _ hk => hk.2) (.bool ((rd_T31 l1 x14_1).f0.f0))) (fun _ hk => hk.2) (.int .i64 ((rd_T31 l1 x14_1).f0.f1))) (fun _ hk => hk.2) (.int .i64 ((rd_T31 l1 x14_1).f0.f2))) (fun _ hk => hk.2) (.int .i64 ((rd_T31 l1 x14_1).f1))) (fun _ h_ => h_.1))) hb); have n1_ := Aside0.mk (blk_below (g := gb259) (o := .cells #[.bool a0_0, .int .i64 a0_1, .int .i64 a0_2, .int .i64 a0_3] 31 (0, 0)) (by (with_reducible repeat (first | apply blk_drewN | apply blk_drew | apply blk_alloc)); refine blk_far ?_ NB259_264.out _; (with_reducible repeat (first | apply blk_drewN | apply blk_drew | apply blk_alloc)); refine blk_far ?_ NB259_264.out _; (with_reducible repeat (first | apply blk_drewN | apply blk_drew | apply blk_alloc)); refine blk_far ?_ NB259_264.out _; (with_reducible repeat (first | apply blk_drewN | apply blk_drew | apply blk_alloc)); refine blk_far ?_ NB259_264.out _; (with_reducible repeat (first | apply blk_drewN | apply blk_drew | apply blk_alloc)); exact BK259.out) hb); have n2_ := Aside0.mk (blk_below (g := gb264) (o := .cells #[.bool ((rd_T31 l1 x14_1).f0.f0), .int .i64 ((rd_T31 l1 x14_1).f0.f1), .int .i64 ((rd_T31 l1 x14_1).f0.f2), .int .i64 ((rd_T31 l1 x14_1).f1)] 31 (0, 0)) (by (with_reducible repeat (first | apply blk_drewN | apply blk_drew | apply blk_alloc)); refine blk_put (cs := #[.bool ((rd_T31 l1 x14_1).f0.f0), .int .i64 ((rd_T31 l1 x14_1).f0.f1), .int .i64 ((rd_T31 l1 x14_1).f0.f2), .int .i64 0]) ?_ 3 _ rfl; (with_reducible repeat (first | apply blk_drewN | apply blk_drew | apply blk_alloc)); refine blk_put (cs := #[.bool ((rd_T31 l1 x14_1).f0.f0), .int .i64 ((rd_T31 l1 x14_1).f0.f1), .int .i64 0, .int .i64 0]) ?_ 2 _ rfl; (with_reducible repeat (first | apply blk_drewN | apply blk_drew | apply blk_alloc)); refine blk_put (cs := #[.bool ((rd_T31 l1 x14_1).f0.f0), .int .i64 0, .int .i64 0, .int .i64 0]) ?_ 1 _ rfl; (with_reducible repeat (first | apply blk_drewN | apply blk_drew | apply blk_alloc)); refine blk_put (cs := #[.bool false, .int .i64 0, .int .i64 0, .int .i64 0]) ?_ 0 _ rfl; (with_reducible repeat (first | apply blk_drewN | apply blk_drew | apply blk_alloc)); exact BK264.out) hb); have n3_ := Aside0.mk (below_step (by repeat (first | (with_reducible first | exact HB.out | apply below_alloc | apply pw_below_drewN | apply below_drew1 | refine below_set ?_ GE259.out | refine below_set ?_ GE264.out) | exact HB.out)) hb); clear HO_5; clear BK259; clear BK264; clear HB; have HO_5 := n0_; have BK259 := n1_; have BK264 := n2_; have HB := n3_; clear n0_ n1_ n2_ n3_; (try clear hb); (try clear hb2); (try clear hk); (try clear hi)))
       go_ret
       exact ⟨_, by first | rfl | (simp [errW_none, errW_some] <;> rfl) | (simp [*, errW_none, errW_some] <;> rfl), by first | exact Kd.R_nil _ _ _ _ _ | exact Kd.N_nil _ _ _ _ _ | exact Kd.V_nil _ _ _ _ _ | exact Kd.Q_nil _ _ _ _ _ | exact Kd.S_nil _ _ _ _ _, by repeat (first | (with_reducible first | exact HB.out | apply below_alloc | apply pw_below_drewN | apply below_drew1 | refine below_set ?_ GE259.out | refine below_set ?_ GE264.out) | exact HB.out)⟩
      ·replace c10 := Bool.eq_false_iff.mpr c10
       subst c10
       have H1 : ((impl_Within.f ((rd_T31 l1 x14_1).f0.f0) ((rd_T31 l1 x14_1).f0.f1) ((rd_T31 l1 x14_1).f0.f2) ((rd_T31 l1 x14_1).f1) a0_0 a0_1 a0_2 a0_3).bind fun t266 => (if t266 = true then (if x5_1.length < 4398046511104 then (impl_without.l0 k1 (x5_1 ++ [(⟨(⟨(rd_T31 l1 x14_1).f0.f0, (rd_T31 l1 x14_1).f0.f1, (rd_T31 l1 x14_1).f0.f2⟩ : S29), (rd_T31 l1 x14_1).f1⟩ : S31)]) l1 (l1.length : Int) (wrap64 (x14_1 + 1)) a0_0 a0_1 a0_2 a0_3) else (none)) else (impl_without.l0 k1 x5_1 l1 (l1.length : Int) (wrap64 (x14_1 + 1)) a0_0 a0_1 a0_2 a0_3))) = some r := by rw [if_neg (show ¬ (false = true) by decide)] at H; exact H
       clear H
       have H := H1
       clear H1
       replace H := Option.bind_eq_some_iff.mp H
       obtain ⟨t266, A160, H⟩ := H
       replace H : (if t266 = true then (if x5_1.length < 4398046511104 then (impl_without.l0 k1 (x5_1 ++ [(⟨(⟨(rd_T31 l1 x14_1).f0.f0, (rd_T31 l1 x14_1).f0.f1, (rd_T31 l1 x14_1).f0.f2⟩ : S29), (rd_T31 l1 x14_1).f1⟩ : S31)]) l1 (l1.length : Int) (wrap64 (x14_1 + 1)) a0_0 a0_1 a0_2 a0_3) else (none)) else (impl_without.l0 k1 x5_1 l1 (l1.length : Int) (wrap64 (x14_1 + 1)) a0_0 a0_1 a0_2 a0_3)) = some r := H
       have A16 := Aside0.mk A160
       clear A160
       by_cases c17 : t266 = true
       ·subst c17
        have H1 : (if x5_1.length < 4398046511104 then (impl_without.l0 k1 (x5_1 ++ [(⟨(⟨(rd_T31 l1 x14_1).f0.f0, (rd_T31 l1 x14_1).f0.f1, (rd_T31 l1 x14_1).f0.f2⟩ : S29), (rd_T31 l1 x14_1).f1⟩ : S31)]) l1 (l1.length : Int) (wrap64 (x14_1 + 1)) a0_0 a0_1 a0_2 a0_3) else (none)) = some r := by rw [if_pos rfl] at H; exact H
        clear H
        have H := H1
        clear H1
        by_cases c18 : x5_1.length < 4398046511104
        ·rw [if_pos c18] at H
         have LMc18 := Aside0.mk c18
         clear c18
         obtain ⟨y267, hy267⟩ : ∃ y_ : List (S31), y_ = (x5_1 ++ [(⟨(⟨(rd_T31 l1 x14_1).f0.f0, (rd_T31 l1 x14_1).f0.f1, (rd_T31 l1 x14_1).f0.f2⟩ : S29), (rd_T31 l1 x14_1).f1⟩ : S31)]) := ⟨_, rfl⟩
         replace H : (impl_without.l0 k1 y267 l1 (l1.length : Int) (wrap64 (x14_1 + 1)) a0_0 a0_1 a0_2 a0_3) = some r := by first | (rw [hy267]; with_reducible exact H) | (have H2_ := (Option.bind_some _ _).symm.trans H; rw [hy267]; with_reducible exact H2_) | (have H2_ := (Option.bind_some _ _).symm.trans H; with_reducible exact H2_) | with_reducible exact H | (rw [hy267]; exact H) | exact H
         have Ny267 := Aside0.mk hy267
         clear hy267
         have H' := Aside0.mk H
         clear H
         have p263 : 0 ≤ (x14_1 : Int) := of_decide_eq_true (by first | (with_reducible assumption) | assumption)
         have q263 : x14_1 < (l1.length : Int) := of_decide_eq_true (by first | (with_reducible assumption) | assumption)
         obtain ⟨ad263, e263, hx263_0, hx263_1, hx263_2, hx263_3⟩ := at_T31 HR1.out x14_1 p263 q263
         cases e263
         replace hx263_0 := (HB.out.cell (World.block_lt_of_cell? w _ hx263_0)).trans hx263_0
         replace hx263_1 := (HB.out.cell (World.block_lt_of_cell? w _ hx263_1)).trans hx263_1
         replace hx263_2 := (HB.out.cell (World.block_lt_of_cell? w _ hx263_2)).trans hx263_2
         replace hx263_3 := (HB.out.cell (World.block_lt_of_cell? w _ hx263_3)).trans hx263_3
         replace p263 := eq_true p263
         replace q263 := eq_true q263
         go_wp2_with (first | ((with_reducible refine gate_dst (N := 7) rfl ?_); refine box_event ?hg (N := 7) ?hd (cs := #[.bool false, .int .i64 0, .int .i64 0, .int .i64 0]) (t := 31) ?hr ?_; (case hd => rfl); (case hg => rfl); (case hr => first | (go_simp; done) | (go_simp; rfl)); intro gb264 hg w19 hbox hb; have n0_ := Aside0.mk (Kd.R_below (Kd.R_elderB (by (with_reducible repeat (first | apply Kd.R_alloc | apply Kd.R_drewN | apply Kd.R_drew)); exact HO_5.out) gb264 (Nat.le_of_eq hg.symm)) hb); have n1_ := Aside0.mk (blk_below (g := gb259) (o := .cells #[.bool a0_0, .int .i64 a0_1, .int .i64 a0_2, .int .i64 a0_3] 31 (0, 0)) (by (with_reducible repeat (first | apply blk_drewN | apply blk_drew | apply blk_alloc)); exact BK259.out) hb); have n2_ := Aside0.mk (below_step (by repeat (first | (with_reducible first | exact HB.out | apply below_alloc | apply pw_below_drewN | apply below_drew1 | refine below_set ?_ GE259.out) | exact HB.out)) hb); have n3_ := Aside0.mk (hbox); have n4_ := Aside0.mk ((by rw [hg]; exact (below_size (by repeat (first | (with_reducible first | exact HB.out | apply below_alloc | apply pw_below_drewN | apply below_drew1 | refine below_set ?_ GE259.out) | exact HB.out))) : w.heap.size ≤ gb264)); have n5_ := Aside0.mk ((by rw [hg]; exact (below_size (by repeat (first | (with_reducible first | exact HB.out | apply below_alloc | apply pw_below_drewN | apply below_drew1 | refine below_set ?_ GE259.out) | exact HB.out))) : w.heap.size ≤ gb264)); have n6_ := Aside0.mk ((by rw [hg]; exact Nat.ne_of_lt (blk_lt (g := gb259) (o := .cells #[.bool a0_0, .int .i64 a0_1, .int .i64 a0_2, .int .i64 a0_3] 31 (0, 0)) (by (with_reducible repeat (first | apply blk_drewN | apply blk_drew | apply blk_alloc)); exact BK259.out)) : gb259 ≠ gb264)); have n7_ := Aside0.mk ((by rw [hg]; exact Nat.ne_of_gt (blk_lt (g := gb259) (o := .cells #[.bool a0_0, .int .i64 a0_1, .int .i64 a0_2, .int .i64 a0_3] 31 (0, 0)) (by (with_reducible repeat (first | apply blk_drewN | apply blk_drew | apply blk_alloc)); exact BK259.out)) : gb264 ≠ gb259)); clear HO_5; clear BK259; clear HB; have HO_5 := n0_; have BK259 := n1_; have HB := n2_; have BK264 := n3_; have GW264 := n4_; have GE264 := n5_; have NB259_264 := n6_; have NB264_259 := n7_; clear n0_ n1_ n2_ n3_ n4_ n5_ n6_ n7_; clear hb hbox hg; have hnb20 := NB264_259.out; have hnc20 := NB259_264.out; have hcz21_0 : w19.cell? ⟨gb264, 0, none⟩ = some (.bool false) := (blk_cell BK264.out 0).trans rfl; have hcz21_1 : w19.cell? ⟨gb264, 1, none⟩ = some (.int .i64 0) := (blk_cell BK264.out 1).trans rfl; have hcz21_2 : w19.cell? ⟨gb264, 2, none⟩ = some (.int .i64 0) := (blk_cell BK264.out 2).trans rfl; have hcz21_3 : w19.cell? ⟨gb264, 3, none⟩ = some (.int .i64 0) := (blk_cell BK264.out 3).trans rfl; have hfz21_0 := blk_frozen BK264.out 0; have hfz21_1 := blk_frozen BK264.out 1; have hfz21_2 := blk_frozen BK264.out 2; have hfz21_3 := blk_frozen BK264.out 3; have hcz22_0 : w19.cell? ⟨gb259, 0, none⟩ = some (.bool a0_0) := (blk_cell BK259.out 0).trans rfl; have hcz22_1 : w19.cell? ⟨gb259, 1, none⟩ = some (.int .i64 a0_1) := (blk_cell BK259.out 1).trans rfl; have hcz22_2 : w19.cell? ⟨gb259, 2, none⟩ = some (.int .i64 a0_2) := (blk_cell BK259.out 2).trans rfl; have hcz22_3 : w19.cell? ⟨gb259, 3, none⟩ = some (.int .i64 a0_3) := (blk_cell BK259.out 3).trans rfl; have hfz22_0 := blk_frozen BK259.out 0; have hfz22_1 := blk_frozen BK259.out 1; have hfz22_2 := blk_frozen BK259.out 2; have hfz22_3 := blk_frozen BK259.out 3) | ((with_reducible refine gate_callee (f := 44) rfl ?_); refine goesL_ (some 20) rfl rfl Try.func44 (by kernel_rfl) rfl #[.agg #[.bool a0_0, .int .i64 a0_1, .int .i64 a0_2, .int .i64 a0_3], .agg #[.bool ((rd_T31 l1 x14_1).f0.f0), .int .i64 ((rd_T31 l1 x14_1).f0.f1), .int .i64 ((rd_T31 l1 x14_1).f0.f2), .int .i64 ((rd_T31 l1 x14_1).f1)]] rfl (by (try simp only [List.map_toArray, List.map_cons, List.map_nil]); first | done | rfl | (simp only [List.length_drop, List.length_take]; rfl)) ?_; (with_reducible refine (impl_Within.calls a0_0 a0_1 a0_2 a0_3 ((rd_T31 l1 x14_1).f0.f0) ((rd_T31 l1 x14_1).f0.f1) ((rd_T31 l1 x14_1).f0.f2) ((rd_T31 l1 x14_1).f1) false _ A9.out).mono ?_); rintro e w23 ⟨rfl, hb⟩; refine ⟨_, rfl, ?_⟩; have n0_ := Aside0.mk (Kd.R_below (by (with_reducible repeat (first | apply Kd.R_alloc | apply Kd.R_drewN | apply Kd.R_drew)); exact (Kd.R_mono (Kd.R_far (p := ⟨gb264, 3, none⟩) (Kd.R_far (p := ⟨gb264, 2, none⟩) (Kd.R_far (p := ⟨gb264, 1, none⟩) (Kd.R_far (p := ⟨gb264, 0, none⟩) (Kd.R_mono HO_5.out (fun k_ hk => (⟨hk, hk.2⟩ : _ ∧ k_ ≠ gb264))) (fun _ hk => hk.2) (.bool ((rd_T31 l1 x14_1).f0.f0))) (fun _ hk => hk.2) (.int .i64 ((rd_T31 l1 x14_1).f0.f1))) (fun _ hk => hk.2) (.int .i64 ((rd_T31 l1 x14_1).f0.f2))) (fun _ hk => hk.2) (.int .i64 ((rd_T31 l1 x14_1).f1))) (fun _ h_ => h_.1))) hb); have n1_ := Aside0.mk (blk_below (g := gb259) (o := .cells #[.bool a0_0, .int .i64 a0_1, .int .i64 a0_2, .int .i64 a0_3] 31 (0, 0)) (by (with_reducible repeat (first | apply blk_drewN | apply blk_drew | apply blk_alloc)); refine blk_far ?_ NB259_264.out _; (with_reducible repeat (first | apply blk_drewN | apply blk_drew | apply blk_alloc)); refine blk_far ?_ NB259_264.out _; (with_reducible repeat (first | apply blk_drewN | apply blk_drew | apply blk_alloc)); refine blk_far ?_ NB259_264.out _; (with_reducible repeat (first | apply blk_drewN | apply blk_drew | apply blk_alloc)); refine blk_far ?_ NB259_264.out _; (with_reducible repeat (first | apply blk_drewN | apply blk_drew | apply blk_alloc)); exact BK259.out) hb); have n2_ := Aside0.mk (blk_below (g := gb264) (o := .cells #[.bool ((rd_T31 l1 x14_1).f0.f0), .int .i64 ((rd_T31 l1 x14_1).f0.f1), .int .i64 ((rd_T31 l1 x14_1).f0.f2), .int .i64 ((rd_T31 l1 x14_1).f1)] 31 (0, 0)) (by (with_reducible repeat (first | apply blk_drewN | apply blk_drew | apply blk_alloc)); refine blk_put (cs := #[.bool ((rd_T31 l1 x14_1).f0.f0), .int .i64 ((rd_T31 l1 x14_1).f0.f1), .int .i64 ((rd_T31 l1 x14_1).f0.f2), .int .i64 0]) ?_ 3 _ rfl; (with_reducible repeat (first | apply blk_drewN | apply blk_drew | apply blk_alloc)); refine blk_put (cs := #[.bool ((rd_T31 l1 x14_1).f0.f0), .int .i64 ((rd_T31 l1 x14_1).f0.f1), .int .i64 0, .int .i64 0]) ?_ 2 _ rfl; (with_reducible repeat (first | apply blk_drewN | apply blk_drew | apply blk_alloc)); refine blk_put (cs := #[.bool ((rd_T31 l1 x14_1).f0.f0), .int .i64 0, .int .i64 0, .int .i64 0]) ?_ 1 _ rfl; (with_reducible repeat (first | apply blk_drewN | apply blk_drew | apply blk_alloc)); refine blk_put (cs := #[.bool false, .int .i64 0, .int .i64 0, .int .i64 0]) ?_ 0 _ rfl; (with_reducible repeat (first | apply blk_drewN | apply blk_drew | apply blk_alloc)); exact BK264.out) hb); have n3_ := Aside0.mk (below_step (by repeat (first | (with_reducible first | exact HB.out | apply below_alloc | apply pw_below_drewN | apply below_drew1 | refine below_set ?_ GE259.out | refine below_set ?_ GE264.out) | exact HB.out)) hb); clear HO_5; clear BK259; clear BK264; clear HB; have HO_5 := n0_; have BK259 := n1_; have BK264 := n2_; have HB := n3_; clear n0_ n1_ n2_ n3_; (try clear hb); (try clear hb2); (try clear hk); (try clear hi); have hcz24_0 : w23.cell? ⟨gb264, 0, none⟩ = some (.bool ((rd_T31 l1 x14_1).f0.f0)) := (blk_cell BK264.out 0).trans rfl; have hcz24_1 : w23.cell? ⟨gb264, 1, none⟩ = some (.int .i64 ((rd_T31 l1 x14_1).f0.f1)) := (blk_cell BK264.out 1).trans rfl; have hcz24_2 : w23.cell? ⟨gb264, 2, none⟩ = some (.int .i64 ((rd_T31 l1 x14_1).f0.f2)) := (blk_cell BK264.out 2).trans rfl; have hcz24_3 : w23.cell? ⟨gb264, 3, none⟩ = some (.int .i64 ((rd_T31 l1 x14_1).f1)) := (blk_cell BK264.out 3).trans rfl; have hfz24_0 := blk_frozen BK264.out 0; have hfz24_1 := blk_frozen BK264.out 1; have hfz24_2 := blk_frozen BK264.out 2; have hfz24_3 := blk_frozen BK264.out 3; have hcz25_0 : w23.cell? ⟨gb259, 0, none⟩ = some (.bool a0_0) := (blk_cell BK259.out 0).trans rfl; have hcz25_1 : w23.cell? ⟨gb259, 1, none⟩ = some (.int .i64 a0_1) := (blk_cell BK259.out 1).trans rfl; have hcz25_2 : w23.cell? ⟨gb259, 2, none⟩ = some (.int .i64 a0_2) := (blk_cell BK259.out 2).trans rfl; have hcz25_3 : w23.cell? ⟨gb259, 3, none⟩ = some (.int .i64 a0_3) := (blk_cell BK259.out 3).trans rfl; have hfz25_0 := blk_frozen BK259.out 0; have hfz25_1 := blk_frozen BK259.out 1; have hfz25_2 := blk_frozen BK259.out 2; have hfz25_3 := blk_frozen BK259.out 3) | ((with_reducible refine gate_callee (f := 44) rfl ?_); refine goesL_ (some 23) rfl rfl Try.func44 (by kernel_rfl) rfl #[.agg #[.bool ((rd_T31 l1 x14_1).f0.f0), .int .i64 ((rd_T31 l1 x14_1).f0.f1), .int .i64 ((rd_T31 l1 x14_1).f0.f2), .int .i64 ((rd_T31 l1 x14_1).f1)], .agg #[.bool a0_0, .int .i64 a0_1, .int .i64 a0_2, .int .i64 a0_3]] rfl (by (try simp only [List.map_toArray, List.map_cons, List.map_nil]); first | done | rfl | (simp only [List.length_drop, List.length_take]; rfl)) ?_; (with_reducible refine (impl_Within.calls ((rd_T31 l1 x14_1).f0.f0) ((rd_T31 l1 x14_1).f0.f1) ((rd_T31 l1 x14_1).f0.f2) ((rd_T31 l1 x14_1).f1) a0_0 a0_1 a0_2 a0_3 true _ A16.out).mono ?_); rintro e w26 ⟨rfl, hb⟩; refine ⟨_, rfl, ?_⟩; have n0_ := Aside0.mk (Kd.R_below (by (with_reducible repeat (first | apply Kd.R_alloc | apply Kd.R_drewN | apply Kd.R_drew)); exact HO_5.out) hb); have n1_ := Aside0.mk (blk_below (g := gb259) (o := .cells #[.bool a0_0, .int .i64 a0_1, .int .i64 a0_2, .int .i64 a0_3] 31 (0, 0)) (by (with_reducible repeat (first | apply blk_drewN | apply blk_drew | apply blk_alloc)); exact BK259.out) hb); have n2_ := Aside0.mk (blk_below (g := gb264) (o := .cells #[.bool ((rd_T31 l1 x14_1).f0.f0), .int .i64 ((rd_T31 l1 x14_1).f0.f1), .int .i64 ((rd_T31 l1 x14_1).f0.f2), .int .i64 ((rd_T31 l1 x14_1).f1)] 31 (0, 0)) (by (with_reducible repeat (first | apply blk_drewN | apply blk_drew | apply blk_alloc)); exact BK264.out) hb); have n3_ := Aside0.mk (below_step (by repeat (first | (with_reducible first | exact HB.out | apply below_alloc | apply pw_below_drewN | apply below_drew1 | refine below_set ?_ GE259.out | refine below_set ?_ GE264.out) | exact HB.out)) hb); clear HO_5; clear BK259; clear BK264; clear HB; have HO_5 := n0_; have BK259 := n1_; have BK264 := n2_; have HB := n3_; clear n0_ n1_ n2_ n3_; (try clear hb); (try clear hb2); (try clear hk); (try clear hi); have hcz27_0 : w26.cell? ⟨gb264, 0, none⟩ = some (.bool ((rd_T31 l1 x14_1).f0.f0)) := (blk_cell BK264.out 0).trans rfl; have hcz27_1 : w26.cell? ⟨gb264, 1, none⟩ = some (.int .i64 ((rd_T31 l1 x14_1).f0.f1)) := (blk_cell BK264.out 1).trans rfl; have hcz27_2 : w26.cell? ⟨gb264, 2, none⟩ = some (.int .i64 ((rd_T31 l1 x14_1).f0.f2)) := (blk_cell BK264.out 2).trans rfl; have hcz27_3 : w26.cell? ⟨gb264, 3, none⟩ = some (.int .i64 ((rd_T31 l1 x14_1).f1)) := (blk_cell BK264.out 3).trans rfl; have hfz27_0 := blk_frozen BK264.out 0; have hfz27_1 := blk_frozen BK264.out 1; have hfz27_2 := blk_frozen BK264.out 2; have hfz27_3 := blk_frozen BK264.out 3) | ((with_reducible refine gate_builtin (b := .append) (xs := #[.tmp 24, .tmp 26]) rfl ?_); at_builtin; refine Kd.R_append k31 (w0 := w) w.heap.size rfl (.tmp 24) (.tmp 26) 33 31 (.agg #[(.bool false), (.int .i64 0), (.int .i64 0), (.int .i64 0)]) 32 rfl Try.underlying33 info31 rfl (by decide) (by omega) u5 x5_1 (⟨(⟨(rd_T31 l1 x14_1).f0.f0, (rd_T31 l1 x14_1).f0.f1, (rd_T31 l1 x14_1).f0.f2⟩ : S29), (rd_T31 l1 x14_1).f1⟩ : S31) [.bool ((rd_T31 l1 x14_1).f0.f0), .int .i64 ((rd_T31 l1 x14_1).f0.f1), .int .i64 ((rd_T31 l1 x14_1).f0.f2), .int .i64 ((rd_T31 l1 x14_1).f1)] (fun k_ => k_ ≠ gb259 ∧ k_ ≠ gb264) (fun _ => False) rfl rfl ?aP (fun _ hk => hk.elim) ?aF ?aO ?aB ?aS ?aL ?_; (case aP => exact k31_mkM _ _ _ (⟨(⟨(rd_T31 l1 x14_1).f0.f0, (rd_T31 l1 x14_1).f0.f1, (rd_T31 l1 x14_1).f0.f2⟩ : S29), (rd_T31 l1 x14_1).f1⟩ : S31)); (case aB => exact (by repeat (first | (with_reducible first | exact HB.out | apply below_alloc | apply pw_below_drewN | apply below_drew1 | refine below_set ?_ GE259.out | refine below_set ?_ GE264.out) | exact HB.out))); (case aF => exact (fun k_ hk => ⟨Kd.freshB (g := gb259) (o := .cells #[.bool a0_0, .int .i64 a0_1, .int .i64 a0_2, .int .i64 a0_3] 31 (0, 0)) (by (with_reducible repeat (first | apply blk_drewN | apply blk_drew | apply blk_alloc)); exact BK259.out) k_ hk, Kd.freshB (g := gb264) (o := .cells #[.bool ((rd_T31 l1 x14_1).f0.f0), .int .i64 ((rd_T31 l1 x14_1).f0.f1), .int .i64 ((rd_T31 l1 x14_1).f0.f2), .int .i64 ((rd_T31 l1 x14_1).f1)] 31 (0, 0)) (by (with_reducible repeat (first | apply blk_drewN | apply blk_drew | apply blk_alloc)); exact BK264.out) k_ hk⟩)); (case aO => exact (by (with_reducible repeat (first | apply Kd.R_alloc | apply Kd.R_drewN | apply Kd.R_drew)); exact HO_5.out)); (case aS => exact (below_size (by repeat (first | (with_reducible first | exact HB.out | apply below_alloc | apply pw_below_drewN | apply below_drew1 | refine below_set ?_ GE259.out | refine below_set ?_ GE264.out) | exact HB.out)))); (case aL => have := LMc18.out; omega); intro v268 w28 ho hb hg hat; rw [← Ny267.out] at ho; have n0_ := Aside0.mk (blk_grown (g := gb259) (o := .cells #[.bool a0_0, .int .i64 a0_1, .int .i64 a0_2, .int .i64 a0_3] 31 (0, 0)) (by (with_reducible repeat (first | apply blk_drewN | apply blk_drew | apply blk_alloc)); exact BK259.out) hg (Kd.R_away HO_5.out (fun _ hk => hk.1))); have n1_ := Aside0.mk (blk_grown (g := gb264) (o := .cells #[.bool ((rd_T31 l1 x14_1).f0.f0), .int .i64 ((rd_T31 l1 x14_1).f0.f1), .int .i64 ((rd_T31 l1 x14_1).f0.f2), .int .i64 ((rd_T31 l1 x14_1).f1)] 31 (0, 0)) (by (with_reducible repeat (first | apply blk_drewN | apply blk_drew | apply blk_alloc)); exact BK264.out) hg (Kd.R_away HO_5.out (fun _ hk => hk.2))); have n2_ := Aside0.mk (hb); have n3_ := Aside0.mk (ho); clear BK259; clear BK264; clear HB; clear HO_5; have BK259 := n0_; have BK264 := n1_; have HB := n2_; have HO269 := n3_; clear n0_ n1_ n2_ n3_; clear ho hb hg hat))
         go_roundg k1
         case measure => have := HK1.out; omega
         case rel => exact ⟨(y267), (wrap64 (x14_1 + 1)), (by first | rfl | (simp; done) | (simp [*]; done)), H', ⟨by have := HK1.out; omega⟩, ⟨by (with_reducible repeat (first | apply Kd.R_alloc | apply Kd.R_drewN | apply Kd.R_drew)); exact Kd.R_mono HO269.out (fun _ hk => hk.1)⟩, ⟨by (with_reducible repeat (first | apply blk_drewN | apply blk_drew | apply blk_alloc)); exact BK259.out⟩, ⟨by repeat (first | (with_reducible first | exact HB.out | apply below_alloc | apply pw_below_drewN | apply below_drew1 | refine below_set ?_ GE259.out | refine below_set ?_ GE264.out) | exact HB.out)⟩⟩
        ·rw [if_neg c18] at H
         exact absurd H (by simp)
       ·replace c17 := Bool.eq_false_iff.mpr c17
        subst c17
        have H1 : (impl_without.l0 k1 x5_1 l1 (l1.length : Int) (wrap64 (x14_1 + 1)) a0_0 a0_1 a0_2 a0_3) = some r := by rw [if_neg (show ¬ (false = true) by decide)] at H; exact H
        clear H
        have H := H1
        clear H1
        have H' := Aside0.mk H
        clear H
        have p263 : 0 ≤ (x14_1 : Int) := of_decide_eq_true (by first | (with_reducible assumption) | assumption)
        have q263 : x14_1 < (l1.length : Int) := of_decide_eq_true (by first | (with_reducible assumption) | assumption)
        obtain ⟨ad263, e263, hx263_0, hx263_1, hx263_2, hx263_3⟩ := at_T31 HR1.out x14_1 p263 q263
        cases e263
        replace hx263_0 := (HB.out.cell (World.block_lt_of_cell? w _ hx263_0)).trans hx263_0
        replace hx263_1 := (HB.out.cell (World.block_lt_of_cell? w _ hx263_1)).trans hx263_1
        replace hx263_2 := (HB.out.cell (World.block_lt_of_cell? w _ hx263_2)).trans hx263_2
        replace hx263_3 := (HB.out.cell (World.block_lt_of_cell? w _ hx263_3)).trans hx263_3
        replace p263 := eq_true p263
        replace q263 := eq_true q263
        go_wp2_with (first | ((with_reducible refine gate_dst (N := 7) rfl ?_); refine box_event ?hg (N := 7) ?hd (cs := #[.bool false, .int .i64 0, .int .i64 0, .int .i64 0]) (t := 31) ?hr ?_; (case hd => rfl); (case hg => rfl); (case hr => first | (go_simp; done) | (go_simp; rfl)); intro gb264 hg w29 hbox hb; have n0_ := Aside0.mk (Kd.R_below (Kd.R_elderB (by (with_reducible repeat (first | apply Kd.R_alloc | apply Kd.R_drewN | apply Kd.R_drew)); exact HO_5.out) gb264 (Nat.le_of_eq hg.symm)) hb); have n1_ := Aside0.mk (blk_below (g := gb259) (o := .cells #[.bool a0_0, .int .i64 a0_1, .int .i64 a0_2, .int .i64 a0_3] 31 (0, 0)) (by (with_reducible repeat (first | apply blk_drewN | apply blk_drew | apply blk_alloc)); exact BK259.out) hb); have n2_ := Aside0.mk (below_step (by repeat (first | (with_reducible first | exact HB.out | apply below_alloc | apply pw_below_drewN | apply below_drew1 | refine below_set ?_ GE259.out) | exact HB.out)) hb); have n3_ := Aside0.mk (hbox); have n4_ := Aside0.mk ((by rw [hg]; exact (below_size (by repeat (first | (with_reducible first | exact HB.out | apply below_alloc | apply pw_below_drewN | apply below_drew1 | refine below_set ?_ GE259.out) | exact HB.out))) : w.heap.size ≤ gb264)); have n5_ := Aside0.mk ((by rw [hg]; exact (below_size (by repeat (first | (with_reducible first | exact HB.out | apply below_alloc | apply pw_below_drewN | apply below_drew1 | refine below_set ?_ GE259.out) | exact HB.out))) : w.heap.size ≤ gb264)); have n6_ := Aside0.mk ((by rw [hg]; exact Nat.ne_of_lt (blk_lt (g := gb259) (o := .cells #[.bool a0_0, .int .i64 a0_1, .int .i64 a0_2, .int .i64 a0_3] 31 (0, 0)) (by (with_reducible repeat (first | apply blk_drewN | apply blk_drew | apply blk_alloc)); exact BK259.out)) : gb259 ≠ gb264)); have n7_ := Aside0.mk ((by rw [hg]; exact Nat.ne_of_gt (blk_lt (g := gb259) (o := .cells #[.bool a0_0, .int .i64 a0_1, .int .i64 a0_2, .int .i64 a0_3] 31 (0, 0)) (by (with_reducible repeat (first | apply blk_drewN | apply blk_drew | apply blk_alloc)); exact BK259.out)) : gb264 ≠ gb259)); clear HO_5; clear BK259; clear HB; have HO_5 := n0_; have BK259 := n1_; have HB := n2_; have BK264 := n3_; have GW264 := n4_; have GE264 := n5_; have NB259_264 := n6_; have NB264_259 := n7_; clear n0_ n1_ n2_ n3_ n4_ n5_ n6_ n7_; clear hb hbox hg; have hnb30 := NB264_259.out; have hnc30 := NB259_264.out; have hcz31_0 : w29.cell? ⟨gb264, 0, none⟩ = some (.bool false) := (blk_cell BK264.out 0).trans rfl; have hcz31_1 : w29.cell? ⟨gb264, 1, none⟩ = some (.int .i64 0) := (blk_cell BK264.out 1).trans rfl; have hcz31_2 : w29.cell? ⟨gb264, 2, none⟩ = some (.int .i64 0) := (blk_cell BK264.out 2).trans rfl; have hcz31_3 : w29.cell? ⟨gb264, 3, none⟩ = some (.int .i64 0) := (blk_cell BK264.out 3).trans rfl; have hfz31_0 := blk_frozen BK264.out 0; have hfz31_1 := blk_frozen BK264.out 1; have hfz31_2 := blk_frozen BK264.out 2; have hfz31_3 := blk_frozen BK264.out 3; have hcz32_0 : w29.cell? ⟨gb259, 0, none⟩ = some (.bool a0_0) := (blk_cell BK259.out 0).trans rfl; have hcz32_1 : w29.cell? ⟨gb259, 1, none⟩ = some (.int .i64 a0_1) := (blk_cell BK259.out 1).trans rfl; have hcz32_2 : w29.cell? ⟨gb259, 2, none⟩ = some (.int .i64 a0_2) := (blk_cell BK259.out 2).trans rfl; have hcz32_3 : w29.cell? ⟨gb259, 3, none⟩ = some (.int .i64 a0_3) := (blk_cell BK259.out 3).trans rfl; have hfz32_0 := blk_frozen BK259.out 0; have hfz32_1 := blk_frozen BK259.out 1; have hfz32_2 := blk_frozen BK259.out 2; have hfz32_3 := blk_frozen BK259.out 3) | ((with_reducible refine gate_callee (f := 44) rfl ?_); refine goesL_ (some 20) rfl rfl Try.func44 (by kernel_rfl) rfl #[.agg #[.bool a0_0, .int .i64 a0_1, .int .i64 a0_2, .int .i64 a0_3], .agg #[.bool ((rd_T31 l1 x14_1).f0.f0), .int .i64 ((rd_T31 l1 x14_1).f0.f1), .int .i64 ((rd_T31 l1 x14_1).f0.f2), .int .i64 ((rd_T31 l1 x14_1).f1)]] rfl (by (try simp only [List.map_toArray, List.map_cons, List.map_nil]); first | done | rfl | (simp only [List.length_drop, List.length_take]; rfl)) ?_; (with_reducible refine (impl_Within.calls a0_0 a0_1 a0_2 a0_3 ((rd_T31 l1 x14_1).f0.f0) ((rd_T31 l1 x14_1).f0.f1) ((rd_T31 l1 x14_1).f0.f2) ((rd_T31 l1 x14_1).f1) false _ A9.out).mono ?_); rintro e w33 ⟨rfl, hb⟩; refine ⟨_, rfl, ?_⟩; have n0_ := Aside0.mk (Kd.R_below (by (with_reducible repeat (first | apply Kd.R_alloc | apply Kd.R_drewN | apply Kd.R_drew)); exact (Kd.R_mono (Kd.R_far (p := ⟨gb264, 3, none⟩) (Kd.R_far (p := ⟨gb264, 2, none⟩) (Kd.R_far (p := ⟨gb264, 1, none⟩) (Kd.R_far (p := ⟨gb264, 0, none⟩) (Kd.R_mono HO_5.out (fun k_ hk => (⟨hk, hk.2⟩ : _ ∧ k_ ≠ gb264))) (fun _ hk => hk.2) (.bool ((rd_T31 l1 x14_1).f0.f0))) (fun _ hk => hk.2) (.int .i64 ((rd_T31 l1 x14_1).f0.f1))) (fun _ hk => hk.2) (.int .i64 ((rd_T31 l1 x14_1).f0.f2))) (fun _ hk => hk.2) (.int .i64 ((rd_T31 l1 x14_1).f1))) (fun _ h_ => h_.1))) hb); have n1_ := Aside0.mk (blk_below (g := gb259) (o := .cells #[.bool a0_0, .int .i64 a0_1, .int .i64 a0_2, .int .i64 a0_3] 31 (0, 0)) (by (with_reducible repeat (first | apply blk_drewN | apply blk_drew | apply blk_alloc)); refine blk_far ?_ NB259_264.out _; (with_reducible repeat (first | apply blk_drewN | apply blk_drew | apply blk_alloc)); refine blk_far ?_ NB259_264.out _; (with_reducible repeat (first | apply blk_drewN | apply blk_drew | apply blk_alloc)); refine blk_far ?_ NB259_264.out _; (with_reducible repeat (first | apply blk_drewN | apply blk_drew | apply blk_alloc)); refine blk_far ?_ NB259_264.out _; (with_reducible repeat (first | apply blk_drewN | apply blk_drew | apply blk_alloc)); exact BK259.out) hb); have n2_ := Aside0.mk (blk_below (g := gb264) (o := .cells #[.bool ((rd_T31 l1 x14_1).f0.f0), .int .i64 ((rd_T31 l1 x14_1).f0.f1), .int .i64 ((rd_T31 l1 x14_1).f0.f2), .int .i64 ((rd_T31 l1 x14_1).f1)] 31 (0, 0)) (by (with_reducible repeat (first | apply blk_drewN | apply blk_drew | apply blk_alloc)); refine blk_put (cs := #[.bool ((rd_T31 l1 x14_1).f0.f0), .int .i64 ((rd_T31 l1 x14_1).f0.f1), .int .i64 ((rd_T31 l1 x14_1).f0.f2), .int .i64 0]) ?_ 3 _ rfl; (with_reducible repeat (first | apply blk_drewN | apply blk_drew | apply blk_alloc)); refine blk_put (cs := #[.bool ((rd_T31 l1 x14_1).f0.f0), .int .i64 ((rd_T31 l1 x14_1).f0.f1), .int .i64 0, .int .i64 0]) ?_ 2 _ rfl; (with_reducible repeat (first | apply blk_drewN | apply blk_drew | apply blk_alloc)); refine blk_put (cs := #[.bool ((rd_T31 l1 x14_1).f0.f0), .int .i64 0, .int .i64 0, .int .i64 0]) ?_ 1 _ rfl; (with_reducible repeat (first | apply blk_drewN | apply blk_drew | apply blk_alloc)); refine blk_put (cs := #[.bool false, .int .i64 0, .int .i64 0, .int .i64 0]) ?_ 0 _ rfl; (with_reducible repeat (first | apply blk_drewN | apply blk_drew | apply blk_alloc)); exact BK264.out) hb); have n3_ := Aside0.mk (below_step (by repeat (first | (with_reducible first | exact HB.out | apply below_alloc | apply pw_below_drewN | apply below_drew1 | refine below_set ?_ GE259.out | refine below_set ?_ GE264.out) | exact HB.out)) hb); clear HO_5; clear BK259; clear BK264; clear HB; have HO_5 := n0_; have BK259 := n1_; have BK264 := n2_; have HB := n3_; clear n0_ n1_ n2_ n3_; (try clear hb); (try clear hb2); (try clear hk); (try clear hi); have hcz34_0 : w33.cell? ⟨gb264, 0, none⟩ = some (.bool ((rd_T31 l1 x14_1).f0.f0)) := (blk_cell BK264.out 0).trans rfl; have hcz34_1 : w33.cell? ⟨gb264, 1, none⟩ = some (.int .i64 ((rd_T31 l1 x14_1).f0.f1)) := (blk_cell BK264.out 1).trans rfl; have hcz34_2 : w33.cell? ⟨gb264, 2, none⟩ = some (.int .i64 ((rd_T31 l1 x14_1).f0.f2)) := (blk_cell BK264.out 2).trans rfl; have hcz34_3 : w33.cell? ⟨gb264, 3, none⟩ = some (.int .i64 ((rd_T31 l1 x14_1).f1)) := (blk_cell BK264.out 3).trans rfl; have hfz34_0 := blk_frozen BK264.out 0; have hfz34_1 := blk_frozen BK264.out 1; have hfz34_2 := blk_frozen BK264.out 2; have hfz34_3 := blk_frozen BK264.out 3; have hcz35_0 : w33.cell? ⟨gb259, 0, none⟩ = some (.bool a0_0) := (blk_cell BK259.out 0).trans rfl; have hcz35_1 : w33.cell? ⟨gb259, 1, none⟩ = some (.int .i64 a0_1) := (blk_cell BK259.out 1).trans rfl; have hcz35_2 : w33.cell? ⟨gb259, 2, none⟩ = some (.int .i64 a0_2) := (blk_cell BK259.out 2).trans rfl; have hcz35_3 : w33.cell? ⟨gb259, 3, none⟩ = some (.int .i64 a0_3) := (blk_cell BK259.out 3).trans rfl; have hfz35_0 := blk_frozen BK259.out 0; have hfz35_1 := blk_frozen BK259.out 1; have hfz35_2 := blk_frozen BK259.out 2; have hfz35_3 := blk_frozen BK259.out 3) | ((with_reducible refine gate_callee (f := 44) rfl ?_); refine goesL_ (some 23) rfl rfl Try.func44 (by kernel_rfl) rfl #[.agg #[.bool ((rd_T31 l1 x14_1).f0.f0), .int .i64 ((rd_T31 l1 x14_1).f0.f1), .int .i64 ((rd_T31 l1 x14_1).f0.f2), .int .i64 ((rd_T31 l1 x14_1).f1)], .agg #[.bool a0_0, .int .i64 a0_1, .int .i64 a0_2, .int .i64 a0_3]] rfl (by (try simp only [List.map_toArray, List.map_cons, List.map_nil]); first | done | rfl | (simp only [List.length_drop, List.length_take]; rfl)) ?_; (with_reducible refine (impl_Within.calls ((rd_T31 l1 x14_1).f0.f0) ((rd_T31 l1 x14_1).f0.f1) ((rd_T31 l1 x14_1).f0.f2) ((rd_T31 l1 x14_1).f1) a0_0 a0_1 a0_2 a0_3 false _ A16.out).mono ?_); rintro e w36 ⟨rfl, hb⟩; refine ⟨_, rfl, ?_⟩; have n0_ := Aside0.mk (Kd.R_below (by (with_reducible repeat (first | apply Kd.R_alloc | apply Kd.R_drewN | apply Kd.R_drew)); exact HO_5.out) hb); have n1_ := Aside0.mk (blk_below (g := gb259) (o := .cells #[.bool a0_0, .int .i64 a0_1, .int .i64 a0_2, .int .i64 a0_3] 31 (0, 0)) (by (with_reducible repeat (first | apply blk_drewN | apply blk_drew | apply blk_alloc)); exact BK259.out) hb); have n2_ := Aside0.mk (blk_below (g := gb264) (o := .cells #[.bool ((rd_T31 l1 x14_1).f0.f0), .int .i64 ((rd_T31 l1 x14_1).f0.f1), .int .i64 ((rd_T31 l1 x14_1).f0.f2), .int .i64 ((rd_T31 l1 x14_1).f1)] 31 (0, 0)) (by (with_reducible repeat (first | apply blk_drewN | apply blk_drew | apply blk_alloc)); exact BK264.out) hb); have n3_ := Aside0.mk (below_step (by repeat (first | (with_reducible first | exact HB.out | apply below_alloc | apply pw_below_drewN | apply below_drew1 | refine below_set ?_ GE259.out | refine below_set ?_ GE264.out) | exact HB.out)) hb); clear HO_5; clear BK259; clear BK264; clear HB; have HO_5 := n0_; have BK259 := n1_; have BK264 := n2_; have HB := n3_; clear n0_ n1_ n2_ n3_; (try clear hb); (try clear hb2); (try clear hk); (try clear hi)))
        go_roundg k1
        case measure => have := HK1.out; omega
        case rel => exact ⟨(x5_1), (wrap64 (x14_1 + 1)), (by first | rfl | (simp; done) | (simp [*]; done)), H', ⟨by have := HK1.out; omega⟩, ⟨by (with_reducible repeat (first | apply Kd.R_alloc | apply Kd.R_drewN | apply Kd.R_drew)); exact Kd.R_mono HO_5.out (fun _ hk => hk.1)⟩, ⟨by (with_reducible repeat (first | apply blk_drewN | apply blk_drew | apply blk_alloc)); exact BK259.out⟩, ⟨by repeat (first | (with_reducible first | exact HB.out | apply below_alloc | apply pw_below_drewN | apply below_drew1 | refine below_set ?_ GE259.out | refine below_set ?_ GE264.out) | exact HB.out)⟩⟩
     ·rw [if_neg c8] at H
      exact absurd H (by simp)
    ·rw [if_neg c7] at H
     exact absurd H (by simp)
   ·rw [if_neg c6] at H
    have c6b0 : decide (x14_1 < (l1.length : Int)) = false := decide_eq_false c6
    clear c6
    by_cases c37 : (x5_1.length : Int) = 0
    ·rw [if_pos c37] at H
     have c37b0 : ((x5_1.length : Int) == 0) = true := beq_iff_eq.mpr c37
     have c37b1 : ((x5_1.length : Int) != 0) = false := bne_eq_false_iff_eq.mpr c37
     clear c37
     obtain ⟨y270, hy270⟩ : ∃ y_ : List (S31), y_ = (([(⟨(⟨a0_0, a0_1, a0_2⟩ : S29), a0_3⟩ : S31)] : List (S31))) := ⟨_, rfl⟩
     replace H : (some y270) = some r := by first | (rw [hy270]; with_reducible exact H) | (have H2_ := (Option.bind_some _ _).symm.trans H; rw [hy270]; with_reducible exact H2_) | (have H2_ := (Option.bind_some _ _).symm.trans H; with_reducible exact H2_) | with_reducible exact H | (rw [hy270]; exact H) | exact H
     have Ny270 := Aside0.mk hy270
     clear hy270
     obtain rfl := Option.some.inj H
     obtain ⟨Ao38, co38, eo38⟩ := Kd.R_slice HO_5.out
     subst eo38
     have hcz39_0 : wr.cell? ⟨gb259, 0, none⟩ = some (.bool a0_0) := (blk_cell BK259.out 0).trans rfl
     have hcz39_1 : wr.cell? ⟨gb259, 1, none⟩ = some (.int .i64 a0_1) := (blk_cell BK259.out 1).trans rfl
     have hcz39_2 : wr.cell? ⟨gb259, 2, none⟩ = some (.int .i64 a0_2) := (blk_cell BK259.out 2).trans rfl
     have hcz39_3 : wr.cell? ⟨gb259, 3, none⟩ = some (.int .i64 a0_3) := (blk_cell BK259.out 3).trans rfl
     have hfz39_0 := blk_frozen BK259.out 0
     have hfz39_1 := blk_frozen BK259.out 1
     have hfz39_2 := blk_frozen BK259.out 2
     have hfz39_3 := blk_frozen BK259.out 3
     go_wp2_with (first | ((with_reducible refine gate_dst (N := 33) rfl ?_); refine Kd.R_lit k31 _ 31 ?hg (N := 33) ?hd (xs := ([(⟨(⟨a0_0, a0_1, a0_2⟩ : S29), a0_3⟩ : S31)] : List (S31))) (inner := [.bool a0_0, .int .i64 a0_1, .int .i64 a0_2, .int .i64 a0_3]) (ok := fun _ => True) (okp := fun _ => True) ?hr ?hp (fun _ hk => hk) trivial (Below.refl _ _) (Nat.le_refl _) (by simp) ?_; (case hd => rfl); (case hg => rfl); (case hr => first | (go_simp; done) | (go_simp; rfl)); (case hp => exact (Reps.c4 (show Kd.M k31 _ _ _ (⟨(⟨a0_0, a0_1, a0_2⟩ : S29), a0_3⟩ : S31) [.bool a0_0, .int .i64 a0_1, .int .i64 a0_2, .int .i64 a0_3] from (k31_mkM _ _ _ (⟨(⟨a0_0, a0_1, a0_2⟩ : S29), a0_3⟩ : S31) )) (Reps.none _ _))); intro v271 w40 ho41 hb hg_ hnew_; clear hg_ hnew_; (first | rw [← Ny270.out] at ho41 | (simp only [Int.reduceToNat] at ho41; rw [← Ny270.out] at ho41)); have n0_ := Aside0.mk (Kd.R_elder' (by (with_reducible repeat (first | apply Kd.R_alloc | apply Kd.R_drewN | apply Kd.R_drew)); exact HO_5.out) (Kd.R_base ho41) hb); have n1_ := Aside0.mk (Kd.R_lower (Kd.R_newB (Kd.R_new' ho41 (Kd.R_lt (by (with_reducible repeat (first | apply Kd.R_alloc | apply Kd.R_drewN | apply Kd.R_drew)); exact HO_5.out))) (g := gb259) (o := .cells #[.bool a0_0, .int .i64 a0_1, .int .i64 a0_2, .int .i64 a0_3] 31 (0, 0)) (by (with_reducible repeat (first | apply blk_drewN | apply blk_drew | apply blk_alloc)); exact BK259.out)) (below_size (by repeat (first | (with_reducible first | exact HB.out | apply below_alloc | apply pw_below_drewN | apply below_drew1 | refine below_set ?_ GE259.out) | exact HB.out)))); have n2_ := Aside0.mk (blk_below (g := gb259) (o := .cells #[.bool a0_0, .int .i64 a0_1, .int .i64 a0_2, .int .i64 a0_3] 31 (0, 0)) (by (with_reducible repeat (first | apply blk_drewN | apply blk_drew | apply blk_alloc)); exact BK259.out) hb); have n3_ := Aside0.mk (below_step (by repeat (first | (with_reducible first | exact HB.out | apply below_alloc | apply pw_below_drewN | apply below_drew1 | refine below_set ?_ GE259.out) | exact HB.out)) hb); clear HO_5; clear BK259; clear HB; have HO_5 := n0_; have HO272 := n1_; have BK259 := n2_; have HB := n3_; clear n0_ n1_ n2_ n3_; clear hb ho41))
     go_ret
     exact ⟨_, by first | rfl | (simp [errW_none, errW_some] <;> rfl) | (simp [*, errW_none, errW_some] <;> rfl), by (with_reducible repeat (first | apply Kd.R_alloc | apply Kd.R_drewN | apply Kd.R_drew)); exact Kd.R_mono HO272.out (fun _ hk => trivial), by repeat (first | (with_reducible first | exact HB.out | apply below_alloc | apply pw_below_drewN | apply below_drew1 | refine below_set ?_ GE259.out) | exact HB.out)⟩
    ·rw [if_neg c37] at H
     have c37b0 : ((x5_1.length : Int) == 0) = false := beq_eq_false_iff_ne.mpr c37
     have c37b1 : ((x5_1.length : Int) != 0) = true := bne_iff_ne.mpr c37
     have c37b2 : ¬ (x5_1 = []) := fun h_ => c37 (by rw [h_]; rfl)
     replace H := Option.bind_eq_some_iff.mp H
     obtain ⟨⟨t273, t274, t275, t276, t277, t278, t279, t280, t281⟩, A420, H⟩ := H
     replace H : ((impl_without.f k1 t273 t274 t275 t276 x5_1).bind fun t284 => ((impl_without.f k1 t277 t278 t279 t280 x5_1).bind fun t287 => (if t284.length + t287.length < 4398046511104 then (some (t284 ++ t287)) else (none)))) = some r := H
     have A42 := Aside0.mk A420
     clear A420
     replace H := Option.bind_eq_some_iff.mp H
     obtain ⟨t284, A430, H⟩ := H
     replace H : ((impl_without.f k1 t277 t278 t279 t280 x5_1).bind fun t287 => (if t284.length + t287.length < 4398046511104 then (some (t284 ++ t287)) else (none))) = some r := H
     have A43 := Aside0.mk A430
     clear A430
     replace H := Option.bind_eq_some_iff.mp H
     obtain ⟨t287, A440, H⟩ := H
     replace H : (if t284.length + t287.length < 4398046511104 then (some (t284 ++ t287)) else (none)) = some r := H
     have A44 := Aside0.mk A440
     clear A440
     by_cases c45 : t284.length + t287.length < 4398046511104
     ·rw [if_pos c45] at H
      have LMc45 := Aside0.mk c45
      clear c45
      obtain ⟨y290, hy290⟩ : ∃ y_ : List (S31), y_ = (t284 ++ t287) := ⟨_, rfl⟩
      replace H : (some y290) = some r := by first | (rw [hy290]; with_reducible exact H) | (have H2_ := (Option.bind_some _ _).symm.trans H; rw [hy290]; with_reducible exact H2_) | (have H2_ := (Option.bind_some _ _).symm.trans H; with_reducible exact H2_) | with_reducible exact H | (rw [hy290]; exact H) | exact H
      have Ny290 := Aside0.mk hy290
      clear hy290
      obtain rfl := Option.some.inj H
      obtain ⟨Ao46, co46, eo46⟩ := Kd.R_slice HO_5.out
      subst eo46
      have hcz47_0 : wr.cell? ⟨gb259, 0, none⟩ = some (.bool a0_0) := (blk_cell BK259.out 0).trans rfl
      have hcz47_1 : wr.cell? ⟨gb259, 1, none⟩ = some (.int .i64 a0_1) := (blk_cell BK259.out 1).trans rfl
      have hcz47_2 : wr.cell? ⟨gb259, 2, none⟩ = some (.int .i64 a0_2) := (blk_cell BK259.out 2).trans rfl
      have hcz47_3 : wr.cell? ⟨gb259, 3, none⟩ = some (.int .i64 a0_3) := (blk_cell BK259.out 3).trans rfl
      have hfz47_0 := blk_frozen BK259.out 0
      have hfz47_1 := blk_frozen BK259.out 1
      have hfz47_2 := blk_frozen BK259.out 2
      have hfz47_3 := blk_frozen BK259.out 3
      try go_wp2_with (first | ((with_reducible refine gate_callee (f := 35) rfl ?_); refine goesL_ (some 36) rfl rfl Try.func35 (by kernel_rfl) rfl #[.agg #[.bool a0_0, .int .i64 a0_1, .int .i64 a0_2, .int .i64 a0_3]] rfl (by (try simp only [List.map_toArray, List.map_cons, List.map_nil]); first | done | rfl | (simp only [List.length_drop, List.length_take]; rfl)) ?_; (with_reducible refine (impl_Halves.calls a0_0 a0_1 a0_2 a0_3 t273 t274 t275 t276 t277 t278 t279 t280 t281 _ A42.out).mono ?_); rintro e w48 ⟨rfl, hb⟩; refine ⟨_, rfl, ?_⟩; have n0_ := Aside0.mk (Kd.R_below (by (with_reducible repeat (first | apply Kd.R_alloc | apply Kd.R_drewN | apply Kd.R_drew)); exact HO_5.out) hb); have n1_ := Aside0.mk (blk_below (g := gb259) (o := .cells #[.bool a0_0, .int .i64 a0_1, .int .i64 a0_2, .int .i64 a0_3] 31 (0, 0)) (by (with_reducible repeat (first | apply blk_drewN | apply blk_drew | apply blk_alloc)); exact BK259.out) hb); have n2_ := Aside0.mk (below_step (by repeat (first | (with_reducible first | exact HB.out | apply below_alloc | apply pw_below_drewN | apply below_drew1 | refine below_set ?_ GE259.out) | exact HB.out)) hb); clear HO_5; clear BK259; clear HB; have HO_5 := n0_; have BK259 := n1_; have HB := n2_; clear n0_ n1_ n2_; (try clear hb); (try clear hb2); (try clear hk); (try clear hi)) | ((with_reducible refine gate_dst (N := 8) rfl ?_); refine box_event ?hg (N := 8) ?hd (cs := #[.bool false, .int .i64 0, .int .i64 0, .int .i64 0]) (t := 31) ?hr ?_; (case hd => rfl); (case hg => rfl); (case hr => first | (go_simp; done) | (go_simp; rfl)); intro gb282 hg w49 hbox hb; have n0_ := Aside0.mk (Kd.R_below (Kd.R_elderB (by (with_reducible repeat (first | apply Kd.R_alloc | apply Kd.R_drewN | apply Kd.R_drew)); exact HO_5.out) gb282 (Nat.le_of_eq hg.symm)) hb); have n1_ := Aside0.mk (blk_below (g := gb259) (o := .cells #[.bool a0_0, .int .i64 a0_1, .int .i64 a0_2, .int .i64 a0_3] 31 (0, 0)) (by (with_reducible repeat (first | apply blk_drewN | apply blk_drew | apply blk_alloc)); exact BK259.out) hb); have n2_ := Aside0.mk (below_step (by repeat (first | (with_reducible first | exact HB.out | apply below_alloc | apply pw_below_drewN | apply below_drew1 | refine below_set ?_ GE259.out) | exact HB.out)) hb); have n3_ := Aside0.mk (hbox); have n4_ := Aside0.mk ((by rw [hg]; exact (below_size (by repeat (first | (with_reducible first | exact HB.out | apply below_alloc | apply pw_below_drewN | apply below_drew1 | refine below_set ?_ GE259.out) | exact HB.out))) : w.heap.size ≤ gb282)); have n5_ := Aside0.mk ((by rw [hg]; exact (below_size (by repeat (first | (with_reducible first | exact HB.out | apply below_alloc | apply pw_below_drewN | apply below_drew1 | refine below_set ?_ GE259.out) | exact HB.out))) : w.heap.size ≤ gb282)); have n6_ := Aside0.mk ((by rw [hg]; exact Nat.ne_of_lt (blk_lt (g := gb259) (o := .cells #[.bool a0_0, .int .i64 a0_1, .int .i64 a0_2, .int .i64 a0_3] 31 (0, 0)) (by (with_reducible repeat (first | apply blk_drewN | apply blk_drew | apply blk_alloc)); exact BK259.out)) : gb259 ≠ gb282)); have n7_ := Aside0.mk ((by rw [hg]; exact Nat.ne_of_gt (blk_lt (g := gb259) (o := .cells #[.bool a0_0, .int .i64 a0_1, .int .i64 a0_2, .int .i64 a0_3] 31 (0, 0)) (by (with_reducible repeat (first | apply blk_drewN | apply blk_drew | apply blk_alloc)); exact BK259.out)) : gb282 ≠ gb259)); clear HO_5; clear BK259; clear HB; have HO_5 := n0_; have BK259 := n1_; have HB := n2_; have BK282 := n3_; have GW282 := n4_; have GE282 := n5_; have NB259_282 := n6_; have NB282_259 := n7_; clear n0_ n1_ n2_ n3_ n4_ n5_ n6_ n7_; clear hb hbox hg) | ((with_reducible refine gate_dst (N := 9) rfl ?_); refine box_event ?hg (N := 9) ?hd (cs := #[.bool false, .int .i64 0, .int .i64 0, .int .i64 0]) (t := 31) ?hr ?_; (case hd => rfl); (case hg => rfl); (case hr => first | (go_simp; done) | (go_simp; rfl)); intro gb283 hg w50 hbox hb; have n0_ := Aside0.mk (Kd.R_below (Kd.R_elderB (by (with_reducible repeat (first | apply Kd.R_alloc | apply Kd.R_drewN | apply Kd.R_drew)); exact HO_5.out) gb283 (Nat.le_of_eq hg.symm)) hb); have n1_ := Aside0.mk (blk_below (g := gb259) (o := .cells #[.bool a0_0, .int .i64 a0_1, .int .i64 a0_2, .int .i64 a0_3] 31 (0, 0)) (by (with_reducible repeat (first | apply blk_drewN | apply blk_drew | apply blk_alloc)); exact BK259.out) hb); have n2_ := Aside0.mk (blk_below (g := gb282) (o := .cells #[.bool false, .int .i64 0, .int .i64 0, .int .i64 0] 31 (0, 0)) (by (with_reducible repeat (first | apply blk_drewN | apply blk_drew | apply blk_alloc)); exact BK282.out) hb); have n3_ := Aside0.mk (below_step (by repeat (first | (with_reducible first | exact HB.out | apply below_alloc | apply pw_below_drewN | apply below_drew1 | refine below_set ?_ GE259.out | refine below_set ?_ GE282.out) | exact HB.out)) hb); have n4_ := Aside0.mk (hbox); have n5_ := Aside0.mk ((by rw [hg]; exact (below_size (by repeat (first | (with_reducible first | exact HB.out | apply below_alloc | apply pw_below_drewN | apply below_drew1 | refine below_set ?_ GE259.out | refine below_set ?_ GE282.out) | exact HB.out))) : w.heap.size ≤ gb283)); have n6_ := Aside0.mk ((by rw [hg]; exact (below_size (by repeat (first | (with_reducible first | exact HB.out | apply below_alloc | apply pw_below_drewN | apply below_drew1 | refine below_set ?_ GE259.out | refine below_set ?_ GE282.out) | exact HB.out))) : w.heap.size ≤ gb283)); have n7_ := Aside0.mk ((by rw [hg]; exact Nat.ne_of_lt (blk_lt (g := gb259) (o := .cells #[.bool a0_0, .int .i64 a0_1, .int .i64 a0_2, .int .i64 a0_3] 31 (0, 0)) (by (with_reducible repeat (first | apply blk_drewN | apply blk_drew | apply blk_alloc)); exact BK259.out)) : gb259 ≠ gb283)); have n8_ := Aside0.mk ((by rw [hg]; exact Nat.ne_of_gt (blk_lt (g := gb259) (o := .cells #[.bool a0_0, .int .i64 a0_1, .int .i64 a0_2, .int .i64 a0_3] 31 (0, 0)) (by (with_reducible repeat (first | apply blk_drewN | apply blk_drew | apply blk_alloc)); exact BK259.out)) : gb283 ≠ gb259)); have n9_ := Aside0.mk ((by rw [hg]; exact Nat.ne_of_lt (blk_lt (g := gb282) (o := .cells #[.bool false, .int .i64 0, .int .i64 0, .int .i64 0] 31 (0, 0)) (by (with_reducible repeat (first | apply blk_drewN | apply blk_drew | apply blk_alloc)); exact BK282.out)) : gb282 ≠ gb283)); have n10_ := Aside0.mk ((by rw [hg]; exact Nat.ne_of_gt (blk_lt (g := gb282) (o := .cells #[.bool false, .int .i64 0, .int .i64 0, .int .i64 0] 31 (0, 0)) (by (with_reducible repeat (first | apply blk_drewN | apply blk_drew | apply blk_alloc)); exact BK282.out)) : gb283 ≠ gb282)); clear HO_5; clear BK259; clear BK282; clear HB; have HO_5 := n0_; have BK259 := n1_; have BK282 := n2_; have HB := n3_; have BK283 := n4_; have GW283 := n5_; have GE283 := n6_; have NB259_283 := n7_; have NB283_259 := n8_; have NB282_283 := n9_; have NB283_282 := n10_; clear n0_ n1_ n2_ n3_ n4_ n5_ n6_ n7_ n8_ n9_ n10_; clear hb hbox hg; have hnb51 := NB282_259.out; have hnc51 := NB259_282.out; have hnb52 := NB282_283.out; have hnc52 := NB283_282.out; have hcz53_0 : w50.cell? ⟨gb282, 0, none⟩ = some (.bool false) := (blk_cell BK282.out 0).trans rfl; have hcz53_1 : w50.cell? ⟨gb282, 1, none⟩ = some (.int .i64 0) := (blk_cell BK282.out 1).trans rfl; have hcz53_2 : w50.cell? ⟨gb282, 2, none⟩ = some (.int .i64 0) := (blk_cell BK282.out 2).trans rfl; have hcz53_3 : w50.cell? ⟨gb282, 3, none⟩ = some (.int .i64 0) := (blk_cell BK282.out 3).trans rfl; have hfz53_0 := blk_frozen BK282.out 0; have hfz53_1 := blk_frozen BK282.out 1; have hfz53_2 := blk_frozen BK282.out 2; have hfz53_3 := blk_frozen BK282.out 3; have hnb54 := NB283_259.out; have hnc54 := NB259_283.out; have hcz55_0 : w50.cell? ⟨gb283, 0, none⟩ = some (.bool false) := (blk_cell BK283.out 0).trans rfl; have hcz55_1 : w50.cell? ⟨gb283, 1, none⟩ = some (.int .i64 0) := (blk_cell BK283.out 1).trans rfl; have hcz55_2 : w50.cell? ⟨gb283, 2, none⟩ = some (.int .i64 0) := (blk_cell BK283.out 2).trans rfl; have hcz55_3 : w50.cell? ⟨gb283, 3, none⟩ = some (.int .i64 0) := (blk_cell BK283.out 3).trans rfl; have hfz55_0 := blk_frozen BK283.out 0; have hfz55_1 := blk_frozen BK283.out 1; have hfz55_2 := blk_frozen BK283.out 2; have hfz55_3 := blk_frozen BK283.out 3))
      have n0_ : Aside0 (Kd.R k31 31 ((((((((w50.setCell ⟨gb282, 0, none⟩ (.bool t273)).setCell ⟨gb282, 1, none⟩ (.int .i64 t274)).setCell ⟨gb282, 2, none⟩ (.int .i64 t275)).setCell ⟨gb282, 3, none⟩ (.int .i64 t276)).setCell ⟨gb283, 0, none⟩ (.bool t277)).setCell ⟨gb283, 1, none⟩ (.int .i64 t278)).setCell ⟨gb283, 2, none⟩ (.int .i64 t279)).setCell ⟨gb283, 3, none⟩ (.int .i64 t280)) w.heap.size (fun k_ => k_ ≠ gb259 ∧ k_ ≠ gb282 ∧ k_ ≠ gb283) (.slice Ao46 x5_1.length co46) x5_1) := ⟨by (with_reducible repeat (first | apply Kd.R_alloc | apply Kd.R_drewN | apply Kd.R_drew)); exact Kd.R_mono (Kd.R_far (p := ⟨gb283, 3, none⟩) (Kd.R_far (p := ⟨gb283, 2, none⟩) (Kd.R_far (p := ⟨gb283, 1, none⟩) (Kd.R_far (p := ⟨gb283, 0, none⟩) (Kd.R_far (p := ⟨gb282, 3, none⟩) (Kd.R_far (p := ⟨gb282, 2, none⟩) (Kd.R_far (p := ⟨gb282, 1, none⟩) (Kd.R_far (p := ⟨gb282, 0, none⟩) (Kd.R_mono (Kd.R_mono HO_5.out (fun k_ hk => (⟨hk, hk.1.2⟩ : _ ∧ k_ ≠ gb282))) (fun k_ hk => (⟨hk, hk.1.2⟩ : _ ∧ k_ ≠ gb283))) (fun _ hk => hk.1.2) (.bool t273)) (fun _ hk => hk.1.2) (.int .i64 t274)) (fun _ hk => hk.1.2) (.int .i64 t275)) (fun _ hk => hk.1.2) (.int .i64 t276)) (fun _ hk => hk.2) (.bool t277)) (fun _ hk => hk.2) (.int .i64 t278)) (fun _ hk => hk.2) (.int .i64 t279)) (fun _ hk => hk.2) (.int .i64 t280)) (fun _ hk => ⟨hk.1.1.1.1, ⟨hk.1.1.1.2, hk.1.1.2⟩⟩)⟩
      have n1_ : Aside0 (((((((((w50.setCell ⟨gb282, 0, none⟩ (.bool t273)).setCell ⟨gb282, 1, none⟩ (.int .i64 t274)).setCell ⟨gb282, 2, none⟩ (.int .i64 t275)).setCell ⟨gb282, 3, none⟩ (.int .i64 t276)).setCell ⟨gb283, 0, none⟩ (.bool t277)).setCell ⟨gb283, 1, none⟩ (.int .i64 t278)).setCell ⟨gb283, 2, none⟩ (.int .i64 t279)).setCell ⟨gb283, 3, none⟩ (.int .i64 t280)).heap[gb259]? = some (.cells #[.bool a0_0, .int .i64 a0_1, .int .i64 a0_2, .int .i64 a0_3] 31 (0, 0))) := ⟨by (with_reducible repeat (first | apply blk_drewN | apply blk_drew | apply blk_alloc)); refine blk_far ?_ NB259_283.out _; (with_reducible repeat (first | apply blk_drewN | apply blk_drew | apply blk_alloc)); refine blk_far ?_ NB259_283.out _; (with_reducible repeat (first | apply blk_drewN | apply blk_drew | apply blk_alloc)); refine blk_far ?_ NB259_283.out _; (with_reducible repeat (first | apply blk_drewN | apply blk_drew | apply blk_alloc)); refine blk_far ?_ NB259_283.out _; (with_reducible repeat (first | apply blk_drewN | apply blk_drew | apply blk_alloc)); refine blk_far ?_ NB259_282.out _; (with_reducible repeat (first | apply blk_drewN | apply blk_drew | apply blk_alloc)); refine blk_far ?_ NB259_282.out _; (with_reducible repeat (first | apply blk_drewN | apply blk_drew | apply blk_alloc)); refine blk_far ?_ NB259_282.out _; (with_reducible repeat (first | apply blk_drewN | apply blk_drew | apply blk_alloc)); refine blk_far ?_ NB259_282.out _; (with_reducible repeat (first | apply blk_drewN | apply blk_drew | apply blk_alloc)); exact BK259.out⟩
      have n2_ : Aside0 (((((((((w50.setCell ⟨gb282, 0, none⟩ (.bool t273)).setCell ⟨gb282, 1, none⟩ (.int .i64 t274)).setCell ⟨gb282, 2, none⟩ (.int .i64 t275)).setCell ⟨gb282, 3, none⟩ (.int .i64 t276)).setCell ⟨gb283, 0, none⟩ (.bool t277)).setCell ⟨gb283, 1, none⟩ (.int .i64 t278)).setCell ⟨gb283, 2, none⟩ (.int .i64 t279)).setCell ⟨gb283, 3, none⟩ (.int .i64 t280)).heap[gb282]? = some (.cells #[.bool t273, .int .i64 t274, .int .i64 t275, .int .i64 t276] 31 (0, 0))) := ⟨by (with_reducible repeat (first | apply blk_drewN | apply blk_drew | apply blk_alloc)); refine blk_far ?_ NB282_283.out _; (with_reducible repeat (first | apply blk_drewN | apply blk_drew | apply blk_alloc)); refine blk_far ?_ NB282_283.out _; (with_reducible repeat (first | apply blk_drewN | apply blk_drew | apply blk_alloc)); refine blk_far ?_ NB282_283.out _; (with_reducible repeat (first | apply blk_drewN | apply blk_drew | apply blk_alloc)); refine blk_far ?_ NB282_283.out _; (with_reducible repeat (first | apply blk_drewN | apply blk_drew | apply blk_alloc)); refine blk_put (cs := #[.bool t273, .int .i64 t274, .int .i64 t275, .int .i64 0]) ?_ 3 _ rfl; (with_reducible repeat (first | apply blk_drewN | apply blk_drew | apply blk_alloc)); refine blk_put (cs := #[.bool t273, .int .i64 t274, .int .i64 0, .int .i64 0]) ?_ 2 _ rfl; (with_reducible repeat (first | apply blk_drewN | apply blk_drew | apply blk_alloc)); refine blk_put (cs := #[.bool t273, .int .i64 0, .int .i64 0, .int .i64 0]) ?_ 1 _ rfl; (with_reducible repeat (first | apply blk_drewN | apply blk_drew | apply blk_alloc)); refine blk_put (cs := #[.bool false, .int .i64 0, .int .i64 0, .int .i64 0]) ?_ 0 _ rfl; (with_reducible repeat (first | apply blk_drewN | apply blk_drew | apply blk_alloc)); exact BK282.out⟩
      have n3_ : Aside0 (((((((((w50.setCell ⟨gb282, 0, none⟩ (.bool t273)).setCell ⟨gb282, 1, none⟩ (.int .i64 t274)).setCell ⟨gb282, 2, none⟩ (.int .i64 t275)).setCell ⟨gb282, 3, none⟩ (.int .i64 t276)).setCell ⟨gb283, 0, none⟩ (.bool t277)).setCell ⟨gb283, 1, none⟩ (.int .i64 t278)).setCell ⟨gb283, 2, none⟩ (.int .i64 t279)).setCell ⟨gb283, 3, none⟩ (.int .i64 t280)).heap[gb283]? = some (.cells #[.bool t277, .int .i64 t278, .int .i64 t279, .int .i64 t280] 31 (0, 0))) := ⟨by (with_reducible repeat (first | apply blk_drewN | apply blk_drew | apply blk_alloc)); refine blk_put (cs := #[.bool t277, .int .i64 t278, .int .i64 t279, .int .i64 0]) ?_ 3 _ rfl; (with_reducible repeat (first | apply blk_drewN | apply blk_drew | apply blk_alloc)); refine blk_put (cs := #[.bool t277, .int .i64 t278, .int .i64 0, .int .i64 0]) ?_ 2 _ rfl; (with_reducible repeat (first | apply blk_drewN | apply blk_drew | apply blk_alloc)); refine blk_put (cs := #[.bool t277, .int .i64 0, .int .i64 0, .int .i64 0]) ?_ 1 _ rfl; (with_reducible repeat (first | apply blk_drewN | apply blk_drew | apply blk_alloc)); refine blk_put (cs := #[.bool false, .int .i64 0, .int .i64 0, .int .i64 0]) ?_ 0 _ rfl; (with_reducible repeat (first | apply blk_drewN | apply blk_drew | apply blk_alloc)); refine blk_far ?_ NB283_282.out _; (with_reducible repeat (first | apply blk_drewN | apply blk_drew | apply blk_alloc)); refine blk_far ?_ NB283_282.out _; (with_reducible repeat (first | apply blk_drewN | apply blk_drew | apply blk_alloc)); refine blk_far ?_ NB283_282.out _; (with_reducible repeat (first | apply blk_drewN | apply blk_drew | apply blk_alloc)); refine blk_far ?_ NB283_282.out _; (with_reducible repeat (first | apply blk_drewN | apply blk_drew | apply blk_alloc)); exact BK283.out⟩
      have n4_ : Aside0 (Below w.heap.size w ((((((((w50.setCell ⟨gb282, 0, none⟩ (.bool t273)).setCell ⟨gb282, 1, none⟩ (.int .i64 t274)).setCell ⟨gb282, 2, none⟩ (.int .i64 t275)).setCell ⟨gb282, 3, none⟩ (.int .i64 t276)).setCell ⟨gb283, 0, none⟩ (.bool t277)).setCell ⟨gb283, 1, none⟩ (.int .i64 t278)).setCell ⟨gb283, 2, none⟩ (.int .i64 t279)).setCell ⟨gb283, 3, none⟩ (.int .i64 t280))) := ⟨by repeat (first | (with_reducible first | exact HB.out | apply below_alloc | apply pw_below_drewN | apply below_drew1 | refine below_set ?_ GE259.out | refine below_set ?_ GE282.out | refine below_set ?_ GE283.out) | exact HB.out)⟩
      (try clear HO_5)
      (try clear BK259)
      (try clear BK282)
      (try clear BK283)
      (try clear HB)
      generalize ((((((((w50.setCell ⟨gb282, 0, none⟩ (.bool t273)).setCell ⟨gb282, 1, none⟩ (.int .i64 t274)).setCell ⟨gb282, 2, none⟩ (.int .i64 t275)).setCell ⟨gb282, 3, none⟩ (.int .i64 t276)).setCell ⟨gb283, 0, none⟩ (.bool t277)).setCell ⟨gb283, 1, none⟩ (.int .i64 t278)).setCell ⟨gb283, 2, none⟩ (.int .i64 t279)).setCell ⟨gb283, 3, none⟩ (.int .i64 t280)) = w56 at n0_ n1_ n2_ n3_ n4_ ⊢
      have HO_5 := n0_
      have BK259 := n1_
      have BK282 := n2_
      have BK283 := n3_
      have HB := n4_
      clear n0_ n1_ n2_ n3_ n4_
      have n0_ := Aside0.mk (Kd.R_drew HO_5.out)
      have n1_ := Aside0.mk (blk_drew BK259.out)
      have n2_ := Aside0.mk (blk_drew BK282.out)
      have n3_ := Aside0.mk (blk_drew BK283.out)
      have n4_ := Aside0.mk (below_drew1 HB.out)
      clear HO_5
      clear BK259
      clear BK282
      clear BK283
      clear HB
      have HO_5 := n0_
      have BK259 := n1_
      have BK282 := n2_
      have BK283 := n3_
      have HB := n4_
      clear n0_ n1_ n2_ n3_ n4_
      refine start_ (n := 8) (S := fun w' => w'.cell? ⟨gb282, 0, none⟩ = some (.bool t273) ∧ w'.cell? ⟨gb282, 1, none⟩ = some (.int .i64 t274) ∧ w'.cell? ⟨gb282, 2, none⟩ = some (.int .i64 t275) ∧ w'.cell? ⟨gb282, 3, none⟩ = some (.int .i64 t276) ∧ w'.cell? ⟨gb283, 0, none⟩ = some (.bool t277) ∧ w'.cell? ⟨gb283, 1, none⟩ = some (.int .i64 t278) ∧ w'.cell? ⟨gb283, 2, none⟩ = some (.int .i64 t279) ∧ w'.cell? ⟨gb283, 3, none⟩ = some (.int .i64 t280)) (ds := []) #[false, false, false, false, false, false, false, false] (by kernel_rfl) rfl rfl ⟨(blk_cell BK282.out 0).trans rfl, (blk_cell BK282.out 1).trans rfl, (blk_cell BK282.out 2).trans rfl, (blk_cell BK282.out 3).trans rfl, (blk_cell BK283.out 0).trans rfl, (blk_cell BK283.out 1).trans rfl, (blk_cell BK283.out 2).trans rfl, (blk_cell BK283.out 3).trans rfl⟩ (fun hHeld => ?_); refine with_tabW impl_without.tab13 impl_without.bits13 (fun HT_ HW_ => ?_)
      generalize w56.drew = w57 at HO_5 BK259 BK282 BK283 HB hHeld ⊢
      refine pure_ (i := 1) (N := some 41) (v := ?_) (a' := ?_) #[false, true, false, false, false, false, false, false] rfl rfl (any_of HT_.out (by kernel_rfl)) (fun _ _ _ h => h) (Or.inl ⟨by rfl, ?_⟩) ?_ ?_
      rotate_left
      ·intro w'
       go_simp
       with_reducible rfl
      rotate_left
      ·simp only [put, setIfInBounds_toArray, set_cons_zero, set_cons_succ, i64_w, i32_w]
       rfl
      refine pure_ (i := 4) (N := some 44) (v := ?_) (a' := ?_) #[false, true, false, false, true, false, false, false] rfl rfl (any_of HT_.out (by kernel_rfl)) (fun _ _ _ h => h) (Or.inl ⟨by rfl, ?_⟩) ?_ ?_
      rotate_left
      ·intro w'
       go_simp
       with_reducible rfl
      rotate_left
      ·simp only [put, setIfInBounds_toArray, set_cons_zero, set_cons_succ, i64_w, i32_w]
       rfl
      refine take_ (i := 0) (N := some 40) (v := ?_) (a' := ?_) #[true, true, false, false, true, false, false, false] rfl rfl (take_ofW HT_.out HW_.out (by kernel_rfl)) (fun _ _ _ h => h) (Or.inl ⟨by rfl, ?_⟩) hHeld ?_ ?_
      rotate_left
      ·rintro w' ⟨s0, s1, s2, s3, s4, s5, s6, s7⟩
       go_simp
       with_reducible rfl
      rotate_left
      ·simp only [put, setIfInBounds_toArray, set_cons_zero, set_cons_succ, i64_w, i32_w]
       rfl
      refine take_ (i := 3) (N := some 43) (v := ?_) (a' := ?_) #[true, true, false, true, true, false, false, false] rfl rfl (take_ofW HT_.out HW_.out (by kernel_rfl)) (fun _ _ _ h => h) (Or.inl ⟨by rfl, ?_⟩) hHeld ?_ ?_
      rotate_left
      ·rintro w' ⟨s0, s1, s2, s3, s4, s5, s6, s7⟩
       go_simp
       with_reducible rfl
      rotate_left
      ·simp only [put, setIfInBounds_toArray, set_cons_zero, set_cons_succ, i64_w, i32_w]
       rfl
      refine one_ (i := 2) (N := some 42) #[true, true, true, true, true, false, false, false] rfl rfl (one_of HT_.out (by kernel_rfl)) (by decide) (fun K hK => ?_)
      refine goes_ Try.func76 (by kernel_rfl) rfl #[.agg #[.bool t273, .int .i64 t274, .int .i64 t275, .int .i64 t276], .slice Ao46 x5_1.length co46] (by rfl) rfl rfl (by (try simp only [List.map_toArray, List.map_cons, List.map_nil]); first | done | rfl | (simp only [List.length_drop, List.length_take]; rfl)) ?_
      with_reducible refine (ih k1 (by have := HK1.out; omega) t273 t274 t275 t276 _ _ x5_1 t284 _ ?side1 ?side2 A43.out).mono ?_
      (case side1 => repeat (first | exact (Kd.R_reads' HO_5.out).2.2 | (with_reducible refine Kd.C_alloc ?_ _) | (with_reducible refine Kd.C_drewN ?_ _) | (with_reducible refine Kd.C_drew ?_)))
      (case side2 => exact (Kd.R_reads' HO_5.out).2.1)
      rintro e w58 ⟨v285, rfl, ho0, hb⟩
      refine ⟨_, rfl, ?_⟩
      have n0_ := Aside0.mk (Kd.R_elder' (by (with_reducible repeat (first | apply Kd.R_alloc | apply Kd.R_drewN | apply Kd.R_drew)); exact HO_5.out) (Kd.R_base ho0) hb)
      have n1_ := Aside0.mk (Kd.R_lower (Kd.R_newB (Kd.R_newB (Kd.R_newB (Kd.R_new' ho0 (Kd.R_lt (by (with_reducible repeat (first | apply Kd.R_alloc | apply Kd.R_drewN | apply Kd.R_drew)); exact HO_5.out))) (g := gb259) (o := .cells #[.bool a0_0, .int .i64 a0_1, .int .i64 a0_2, .int .i64 a0_3] 31 (0, 0)) (by (with_reducible repeat (first | apply blk_drewN | apply blk_drew | apply blk_alloc)); exact BK259.out)) (g := gb282) (o := .cells #[.bool t273, .int .i64 t274, .int .i64 t275, .int .i64 t276] 31 (0, 0)) (by (with_reducible repeat (first | apply blk_drewN | apply blk_drew | apply blk_alloc)); exact BK282.out)) (g := gb283) (o := .cells #[.bool t277, .int .i64 t278, .int .i64 t279, .int .i64 t280] 31 (0, 0)) (by (with_reducible repeat (first | apply blk_drewN | apply blk_drew | apply blk_alloc)); exact BK283.out)) (below_size (by repeat (first | (with_reducible first | exact HB.out | apply below_alloc | apply pw_below_drewN | apply below_drew1 | refine below_set ?_ GE259.out | refine below_set ?_ GE282.out | refine below_set ?_ GE283.out) | exact HB.out))))
      have n2_ := Aside0.mk (blk_below (g := gb259) (o := .cells #[.bool a0_0, .int .i64 a0_1, .int .i64 a0_2, .int .i64 a0_3] 31 (0, 0)) (by (with_reducible repeat (first | apply blk_drewN | apply blk_drew | apply blk_alloc)); exact BK259.out) hb)
      have n3_ := Aside0.mk (blk_below (g := gb282) (o := .cells #[.bool t273, .int .i64 t274, .int .i64 t275, .int .i64 t276] 31 (0, 0)) (by (with_reducible repeat (first | apply blk_drewN | apply blk_drew | apply blk_alloc)); exact BK282.out) hb)
      have n4_ := Aside0.mk (blk_below (g := gb283) (o := .cells #[.bool t277, .int .i64 t278, .int .i64 t279, .int .i64 t280] 31 (0, 0)) (by (with_reducible repeat (first | apply blk_drewN | apply blk_drew | apply blk_alloc)); exact BK283.out) hb)
      have n5_ := Aside0.mk (below_step (by repeat (first | (with_reducible first | exact HB.out | apply below_alloc | apply pw_below_drewN | apply below_drew1 | refine below_set ?_ GE259.out | refine below_set ?_ GE282.out | refine below_set ?_ GE283.out) | exact HB.out)) hb)
      clear HO_5
      clear BK259
      clear BK282
      clear BK283
      clear HB
      have HO_5 := n0_
      have HO286 := n1_
      have BK259 := n2_
      have BK282 := n3_
      have BK283 := n4_
      have HB := n5_
      clear n0_ n1_ n2_ n3_ n4_ n5_
      (try clear hb)
      (try clear hb2)
      (try clear hk)
      (try clear hi)
      (try clear ho0)
      refine hK.out _ _ ⟨(blk_cell BK282.out 0).trans rfl, (blk_cell BK282.out 1).trans rfl, (blk_cell BK282.out 2).trans rfl, (blk_cell BK282.out 3).trans rfl, (blk_cell BK283.out 0).trans rfl, (blk_cell BK283.out 1).trans rfl, (blk_cell BK283.out 2).trans rfl, (blk_cell BK283.out 3).trans rfl⟩ (fun hHeld => ?_)
      clear hK K
      refine norm_ (a' := ?_) ?_ ?_
      rotate_left
      ·show Act.put _ (some 42) _ = _
       simp only [put, setIfInBounds_toArray, set_cons_zero, set_cons_succ, i64_w, i32_w]
       rfl
      refine one_ (i := 5) (N := some 45) #[true, true, true, true, true, true, false, false] rfl rfl (one_of HT_.out (by kernel_rfl)) (by decide) (fun K hK => ?_)
      refine goes_ Try.func76 (by kernel_rfl) rfl #[.agg #[.bool t277, .int .i64 t278, .int .i64 t279, .int .i64 t280], .slice Ao46 x5_1.length co46] (by rfl) rfl rfl (by (try simp only [List.map_toArray, List.map_cons, List.map_nil]); first | done | rfl | (simp only [List.length_drop, List.length_take]; rfl)) ?_
      with_reducible refine (ih k1 (by have := HK1.out; omega) t277 t278 t279 t280 _ _ x5_1 t287 _ ?side1 ?side2 A44.out).mono ?_
      (case side1 => repeat (first | exact (Kd.R_reads' HO_5.out).2.2 | (with_reducible refine Kd.C_alloc ?_ _) | (with_reducible refine Kd.C_drewN ?_ _) | (with_reducible refine Kd.C_drew ?_)))
      (case side2 => exact (Kd.R_reads' HO_5.out).2.1)
      rintro e w59 ⟨v288, rfl, ho0, hb⟩
      refine ⟨_, rfl, ?_⟩
      have n0_ := Aside0.mk (Kd.R_elder' (by (with_reducible repeat (first | apply Kd.R_alloc | apply Kd.R_drewN | apply Kd.R_drew)); exact HO_5.out) (Kd.R_base ho0) hb)
      have n1_ := Aside0.mk (Kd.R_elder' (by (with_reducible repeat (first | apply Kd.R_alloc | apply Kd.R_drewN | apply Kd.R_drew)); exact HO286.out) (Kd.R_base ho0) hb)
      have n2_ := Aside0.mk (Kd.R_lower (Kd.R_newB (Kd.R_newB (Kd.R_newB (Kd.R_new' (Kd.R_new' ho0 (Kd.R_lt (by (with_reducible repeat (first | apply Kd.R_alloc | apply Kd.R_drewN | apply Kd.R_drew)); exact HO_5.out))) (Kd.R_lt (by (with_reducible repeat (first | apply Kd.R_alloc | apply Kd.R_drewN | apply Kd.R_drew)); exact HO286.out))) (g := gb259) (o := .cells #[.bool a0_0, .int .i64 a0_1, .int .i64 a0_2, .int .i64 a0_3] 31 (0, 0)) (by (with_reducible repeat (first | apply blk_drewN | apply blk_drew | apply blk_alloc)); exact BK259.out)) (g := gb282) (o := .cells #[.bool t273, .int .i64 t274, .int .i64 t275, .int .i64 t276] 31 (0, 0)) (by (with_reducible repeat (first | apply blk_drewN | apply blk_drew | apply blk_alloc)); exact BK282.out)) (g := gb283) (o := .cells #[.bool t277, .int .i64 t278, .int .i64 t279, .int .i64 t280] 31 (0, 0)) (by (with_reducible repeat (first | apply blk_drewN | apply blk_drew | apply blk_alloc)); exact BK283.out)) (below_size (by repeat (first | (with_reducible first | exact HB.out | apply below_alloc | apply pw_below_drewN | apply below_drew1 | refine below_set ?_ GE259.out | refine below_set ?_ GE282.out | refine below_set ?_ GE283.out) | exact HB.out))))
      have n3_ := Aside0.mk (blk_below (g := gb259) (o := .cells #[.bool a0_0, .int .i64 a0_1, .int .i64 a0_2, .int .i64 a0_3] 31 (0, 0)) (by (with_reducible repeat (first | apply blk_drewN | apply blk_drew | apply blk_alloc)); exact BK259.out) hb)
      have n4_ := Aside0.mk (blk_below (g := gb282) (o := .cells #[.bool t273, .int .i64 t274, .int .i64 t275, .int .i64 t276] 31 (0, 0)) (by (with_reducible repeat (first | apply blk_drewN | apply blk_drew | apply blk_alloc)); exact BK282.out) hb)
      have n5_ := Aside0.mk (blk_below (g := gb283) (o := .cells #[.bool t277, .int .i64 t278, .int .i64 t279, .int .i64 t280] 31 (0, 0)) (by (with_reducible repeat (first | apply blk_drewN | apply blk_drew | apply blk_alloc)); exact BK283.out) hb)
      have n6_ := Aside0.mk (below_step (by repeat (first | (with_reducible first | exact HB.out | apply below_alloc | apply pw_below_drewN | apply below_drew1 | refine below_set ?_ GE259.out | refine below_set ?_ GE282.out | refine below_set ?_ GE283.out) | exact HB.out)) hb)
      clear HO_5
      clear HO286
      clear BK259
      clear BK282
      clear BK283
      clear HB
      have HO_5 := n0_
      have HO286 := n1_
      have HO289 := n2_
      have BK259 := n3_
      have BK282 := n4_
      have BK283 := n5_
      have HB := n6_
      clear n0_ n1_ n2_ n3_ n4_ n5_ n6_
      (try clear hb)
      (try clear hb2)
      (try clear hk)
      (try clear hi)
      (try clear ho0)
      obtain ⟨Ao61, co61, eo61⟩ := Kd.R_slice HO289.out
      (first | subst eo61 | (injection eo61 with f1_ f2_ f3_; have f4_ := f1_.symm; have f5_ := f3_.symm; clear f1_ f2_ f3_; subst f4_; subst f5_))
      refine hK.out _ _ ⟨(blk_cell BK282.out 0).trans rfl, (blk_cell BK282.out 1).trans rfl, (blk_cell BK282.out 2).trans rfl, (blk_cell BK282.out 3).trans rfl, (blk_cell BK283.out 0).trans rfl, (blk_cell BK283.out 1).trans rfl, (blk_cell BK283.out 2).trans rfl, (blk_cell BK283.out 3).trans rfl⟩ (fun hHeld => ?_)
      clear hK K
      refine norm_ (a' := ?_) ?_ ?_
      rotate_left
      ·show Act.put _ (some 45) _ = _
       simp only [put, setIfInBounds_toArray, set_cons_zero, set_cons_succ, i64_w, i32_w]
       rfl
      refine one_ (i := 6) (N := some 46) #[true, true, true, true, true, true, true, false] rfl rfl (one_of HT_.out (by kernel_rfl)) (by decide) (fun K hK => ?_)
      refine Kd.R_append_rows_step k31 (w0 := w) w.heap.size (by rfl) (.tmp 42) (.tmp 45) 33 31 (.agg #[(.bool false), (.int .i64 0), (.int .i64 0), (.int .i64 0)]) 32 rfl Try.underlying33 info31 rfl (by decide) (by omega) v285 t284 t287 _ _ _ (fun k_ => some k_ ≠ (.slice Ao46 x5_1.length co46 : Value).ownBlock ∧ some k_ ≠ (.slice Ao61 t287.length co61 : Value).ownBlock ∧ k_ ≠ gb259 ∧ k_ ≠ gb282 ∧ k_ ≠ gb283) (fun _ => False) rfl rfl ?aO ?aR (fun _ _ h => h) (fun _ h => h.elim) ?aF ?aB ?aS ?aL ?_
      (case aR => repeat (first | exact (Kd.R_reads' HO289.out).2.2 | (with_reducible refine Kd.C_alloc ?_ _) | (with_reducible refine Kd.C_drewN ?_ _) | (with_reducible refine Kd.C_drew ?_)))
      (case aB => exact (by repeat (first | (with_reducible first | exact HB.out | apply below_alloc | apply pw_below_drewN | apply below_drew1 | refine below_set ?_ GE259.out | refine below_set ?_ GE282.out | refine below_set ?_ GE283.out) | exact HB.out)))
      (case aF => exact (fun k_ hk => ⟨Kd.fresh' (Kd.R_lt (by (with_reducible repeat (first | apply Kd.R_alloc | apply Kd.R_drewN | apply Kd.R_drew)); exact HO_5.out)) k_ hk, Kd.fresh' (Kd.R_lt (by (with_reducible repeat (first | apply Kd.R_alloc | apply Kd.R_drewN | apply Kd.R_drew)); exact HO289.out)) k_ hk, Kd.freshB (g := gb259) (o := .cells #[.bool a0_0, .int .i64 a0_1, .int .i64 a0_2, .int .i64 a0_3] 31 (0, 0)) (by (with_reducible repeat (first | apply blk_drewN | apply blk_drew | apply blk_alloc)); exact BK259.out) k_ hk, Kd.freshB (g := gb282) (o := .cells #[.bool t273, .int .i64 t274, .int .i64 t275, .int .i64 t276] 31 (0, 0)) (by (with_reducible repeat (first | apply blk_drewN | apply blk_drew | apply blk_alloc)); exact BK282.out) k_ hk, Kd.freshB (g := gb283) (o := .cells #[.bool t277, .int .i64 t278, .int .i64 t279, .int .i64 t280] 31 (0, 0)) (by (with_reducible repeat (first | apply blk_drewN | apply blk_drew | apply blk_alloc)); exact BK283.out) k_ hk⟩))
      (case aO => exact (by (with_reducible repeat (first | apply Kd.R_alloc | apply Kd.R_drewN | apply Kd.R_drew)); exact Kd.R_mono HO286.out (fun _ hk => ⟨hk.1.1.1.1.2, ⟨hk.2, ⟨hk.1.1.1.2, ⟨hk.1.1.2, hk.1.2⟩⟩⟩⟩)))
      (case aS => exact (below_size (by repeat (first | (with_reducible first | exact HB.out | apply below_alloc | apply pw_below_drewN | apply below_drew1 | refine below_set ?_ GE259.out | refine below_set ?_ GE282.out | refine below_set ?_ GE283.out) | exact HB.out))))
      (case aL => have := LMc45.out; omega)
      intro v291 w60 ho hb hg hat
      rw [← Ny290.out] at ho
      have n0_ := Aside0.mk (Kd.R_after (ok := (fun k_ => some k_ ≠ (.slice Ao61 t287.length co61 : Value).ownBlock ∧ k_ ≠ gb259 ∧ k_ ≠ gb282 ∧ k_ ≠ gb283)) (by (with_reducible repeat (first | apply Kd.R_alloc | apply Kd.R_drewN | apply Kd.R_drew)); exact Kd.R_mono HO_5.out (fun _ hk => ⟨⟨hk.2, ⟨hk.1.1.1, ⟨hk.1.1.2.1, hk.1.1.2.2⟩⟩⟩, hk.1.2⟩)) hg hat)
      have n1_ := Aside0.mk (blk_grown (g := gb259) (o := .cells #[.bool a0_0, .int .i64 a0_1, .int .i64 a0_2, .int .i64 a0_3] 31 (0, 0)) (by (with_reducible repeat (first | apply blk_drewN | apply blk_drew | apply blk_alloc)); exact BK259.out) hg (Kd.R_away HO286.out (fun _ hk => hk.1.1.1.2)))
      have n2_ := Aside0.mk (blk_grown (g := gb282) (o := .cells #[.bool t273, .int .i64 t274, .int .i64 t275, .int .i64 t276] 31 (0, 0)) (by (with_reducible repeat (first | apply blk_drewN | apply blk_drew | apply blk_alloc)); exact BK282.out) hg (Kd.R_away HO286.out (fun _ hk => hk.1.1.2)))
      have n3_ := Aside0.mk (blk_grown (g := gb283) (o := .cells #[.bool t277, .int .i64 t278, .int .i64 t279, .int .i64 t280] 31 (0, 0)) (by (with_reducible repeat (first | apply blk_drewN | apply blk_drew | apply blk_alloc)); exact BK283.out) hg (Kd.R_away HO286.out (fun _ hk => hk.1.2)))
      have n4_ := Aside0.mk (Kd.R_after (ok := (fun k_ => some k_ ≠ (.slice Ao46 x5_1.length co46 : Value).ownBlock ∧ k_ ≠ gb259 ∧ k_ ≠ gb282 ∧ k_ ≠ gb283)) (by (with_reducible repeat (first | apply Kd.R_alloc | apply Kd.R_drewN | apply Kd.R_drew)); exact Kd.R_mono HO289.out (fun _ hk => ⟨⟨hk.1.1.1.1.2, ⟨hk.1.1.2, ⟨hk.1.2, hk.2⟩⟩⟩, hk.1.1.1.2⟩)) hg hat)
      have n5_ := Aside0.mk (hb)
      have n6_ := Aside0.mk (ho)
      clear HO_5
      clear BK259
      clear BK282
      clear BK283
      clear HO289
      clear HB
      clear HO286
      have HO_5 := n0_
      have BK259 := n1_
      have BK282 := n2_
      have BK283 := n3_
      have HO289 := n4_
      have HB := n5_
      have HO292 := n6_
      clear n0_ n1_ n2_ n3_ n4_ n5_ n6_
      clear ho hb hg hat
      refine hK.out _ _ ⟨(blk_cell BK282.out 0).trans rfl, (blk_cell BK282.out 1).trans rfl, (blk_cell BK282.out 2).trans rfl, (blk_cell BK282.out 3).trans rfl, (blk_cell BK283.out 0).trans rfl, (blk_cell BK283.out 1).trans rfl, (blk_cell BK283.out 2).trans rfl, (blk_cell BK283.out 3).trans rfl⟩ (fun hHeld => ?_)
      clear hK K
      refine norm_ (a' := ?_) ?_ ?_
      rotate_left
      ·show Act.put _ (some 46) _ = _
       simp only [put, setIfInBounds_toArray, set_cons_zero, set_cons_succ, i64_w, i32_w]
       rfl
      refine pure_ (i := 7) (N := some 4) (v := ?_) (a' := ?_) #[true, true, true, true, true, true, true, true] rfl rfl (any_of HT_.out (by kernel_rfl)) (fun _ _ _ h => h) (Or.inl ⟨by rfl, ?_⟩) ?_ ?_
      rotate_left
      ·intro w'
       go_simp
       with_reducible rfl
      rotate_left
      ·simp only [put, setIfInBounds_toArray, set_cons_zero, set_cons_succ, i64_w, i32_w]
       rfl
      refine done_ (done_of HT_.out (by kernel_rfl)) ?_
      try go_wp2
      go_ret
      exact ⟨_, by first | rfl | (simp [errW_none, errW_some] <;> rfl) | (simp [*, errW_none, errW_some] <;> rfl), by (with_reducible repeat (first | apply Kd.R_alloc | apply Kd.R_drewN | apply Kd.R_drew)); exact Kd.R_mono HO292.out (fun _ hk => trivial), by repeat (first | (with_reducible first | exact HB.out | apply below_alloc | apply pw_below_drewN | apply below_drew1 | refine below_set ?_ GE259.out | refine below_set ?_ GE282.out | refine below_set ?_ GE283.out) | exact HB.out)⟩
     ·rw [if_neg c45] at H
      exact absurd H (by simp)

-- NOT PRINTED: function 171 (slices_IndexFunc_impl_Prefix)

-- NOT PRINTED: function 139 (slices_ContainsFunc_impl_Prefix)

/-! ### impl_listOk: function 79 -/
def impl_listOk.bad (x : S31) : Bool := !(impl_PrefixOk.f x.f0.f0 x.f0.f1 x.f0.f2 x.f1 == some true)
def impl_listOk.f (l0 : List (S31)) : Option (Bool) :=
 if l0.all (fun x => (impl_PrefixOk.f x.f0.f0 x.f0.f1 x.f0.f2 x.f1).isSome) = true then some (decide ((l0.length : Int) ≤ 300) && !(l0.any impl_listOk.bad)) else none
theorem impl_listOk.miss (l0 : List (S31)) (h : ∀ j : Nat, j < l0.length → impl_listOk.bad (rd_T31 l0 (j : Int)) = false) : l0.any impl_listOk.bad = false := by
 rw [List.any_eq_false]
 intro x hx
 obtain ⟨j, hj, rfl⟩ := List.getElem_of_mem hx
 have := h j hj
 simp only [rd_T31, Int.toNat_natCast, List.getD_eq_getElem?_getD, List.getElem?_eq_getElem hj, Option.getD_some] at this
 simp [this]
theorem impl_listOk.mem (l0 : List (S31)) (j : Nat) (hj : j < l0.length) : rd_T31 l0 (j : Int) ∈ l0 := by
 simp only [rd_T31, Int.toNat_natCast, List.getD_eq_getElem?_getD, List.getElem?_eq_getElem hj, Option.getD_some]
 exact List.getElem_mem hj
theorem impl_listOk.hit (l0 : List (S31)) (j : Nat) (hj : j < l0.length) (h : impl_listOk.bad (rd_T31 l0 (j : Int)) = true) : l0.any impl_listOk.bad = true :=
 List.any_eq_true.2 ⟨_, impl_listOk.mem l0 j hj, h⟩
set_option maxHeartbeats 8000000 in
set_option maxRecDepth 100000 in
theorem impl_listOk.clo (x : S31) (w : World) (h : (impl_PrefixOk.f x.f0.f0 x.f0.f1 x.f0.f2 x.f1).isSome = true) :
  Calls Try.prog 140 #[.agg #[.bool x.f0.f0, .int .i64 x.f0.f1, .int .i64 x.f0.f2, .int .i64 x.f1]] w fun e w' => e = .returned (.bool (impl_listOk.bad x)) ∧ Below w.heap.size w w' := by
 obtain ⟨b, hb0⟩ := Option.isSome_iff_exists.1 h
 have hbad : impl_listOk.bad x = !b := by simp [impl_listOk.bad, hb0]
 rw [hbad]
 have hcall := fun W : World => impl_PrefixOk.calls x.f0.f0 x.f0.f1 x.f0.f2 x.f1 b W hb0
 clear hb0 h hbad
 obtain ⟨⟨y0, y1, y2⟩, y3⟩ := x
 dsimp only at hcall ⊢
 go_enter Try.func140, Try.ntmps140
 go_wp2_with (go_at_call 38; refine (hcall _).mono ?_; rintro e w' ⟨rfl, hb'⟩)
 go_ret
 exact ⟨rfl, below_step (below_alloc (Below.refl _ _) _) hb'⟩
set_option maxHeartbeats 8000000 in
set_option maxRecDepth 100000 in
theorem impl_listOk.index (A0 : Option Addr) (c0 : Nat) (l0 : List (S31)) (w : World) (hr0 : Kd.C k31 w A0 l0.length l0) (hall : ∀ x ∈ l0, (impl_PrefixOk.f x.f0.f0 x.f0.f1 x.f0.f2 x.f1).isSome = true) :
  Calls Try.prog 171 #[.slice A0 l0.length c0, .func (.func 140) #[] #[]] w fun e w' => (∃ i : Int, e = .returned (.int .i64 i) ∧ decide (i ≥ 0) = l0.any impl_listOk.bad) ∧ Below w.heap.size w w' := by
 have hu31 := Try.underlying31
 have eg : ∀ args w, (callFunc 140 args).run Try.prog w = .ok (.enter 140 args) w := enters_of Try.func140 (by kernel_rfl) rfl
 have HN := Aside0.mk hr0.2.1
 have HR0 := Aside0.mk hr0
 have HALL := Aside0.mk hall
 clear hr0 hall
 go_enter Try.func171, Try.ntmps171
 go_wp2
 go_loopg [5, 8] l0.length (fun gg v5 v8 w' => ∃ (kk : Nat), kk ≤ l0.length ∧ l0.length - kk ≤ gg ∧ v8 = .int .i64 (kk : Int) ∧ Aside0 (Below w.heap.size w w') ∧ Aside0 (∀ j : Nat, j < kk → impl_listOk.bad (rd_T31 l0 (j : Int)) = false))
 case atStart => exact ⟨0, Nat.zero_le _, by omega, rfl, ⟨Below.refl _ w⟩, ⟨fun j hj => absurd hj (Nat.not_lt_zero _)⟩⟩
 case round =>
  obtain ⟨kk, hkk, hg, rfl, HB, M⟩ := hrel
  by_cases hlt : kk < l0.length
  ·have p130 : 0 ≤ (kk : Int) := by omega
   have q130 : (kk : Int) < (l0.length : Int) := by omega
   obtain ⟨ad130, e130, hx130_0, hx130_1, hx130_2, hx130_3⟩ := at_T31 HR0.out (kk : Int) p130 q130
   cases e130
   simp only [Int.toNat_natCast] at hx130_0 hx130_1 hx130_2 hx130_3
   replace hx130_0 := (HB.out.cell (World.block_lt_of_cell? w _ hx130_0)).trans hx130_0
   replace hx130_1 := (HB.out.cell (World.block_lt_of_cell? w _ hx130_1)).trans hx130_1
   replace hx130_2 := (HB.out.cell (World.block_lt_of_cell? w _ hx130_2)).trans hx130_2
   replace hx130_3 := (HB.out.cell (World.block_lt_of_cell? w _ hx130_3)).trans hx130_3
   have hcall := impl_listOk.clo (rd_T31 l0 (kk : Int)) wr (HALL.out _ (impl_listOk.mem l0 kk hlt))
   have HX := Aside0.mk (show rd_T31 l0 (kk : Int) = rd_T31 l0 (kk : Int) from rfl)
   generalize hy : rd_T31 l0 (kk : Int) = y at hx130_0 hx130_1 hx130_2 hx130_3 hcall
   have HY := Aside0.mk hy
   clear hy HX
   have hltd : decide ((kk : Int) < (l0.length : Int)) = true := decide_eq_true q130
   replace p130 := eq_true p130
   replace q130 := eq_true q130
   cases hq : impl_listOk.bad y with
   | true =>
    rw [hq] at hcall
    go_wp2_with (go_at_fn 140; refine hcall.mono ?_; rintro e w' ⟨rfl, hb'⟩)
    go_ret
    refine ⟨⟨_, rfl, ?_⟩, below_step HB.out hb'⟩
    rw [impl_listOk.hit l0 kk hlt (by rw [HY.out]; exact hq)]
    simp
   | false =>
    rw [hq] at hcall
    go_wp2_with (go_at_fn 140; refine hcall.mono ?_; rintro e w' ⟨rfl, hb'⟩)
    go_roundg (l0.length - (kk + 1))
    case measure => omega
    case rel =>
     have hn := HN.out
     refine ⟨kk + 1, by omega, by omega, (by rw [show wrap64 ((kk : Int) + 1) = ((kk + 1 : Nat) : Int) from by unfold wrap64; omega]), ⟨below_step HB.out hb'⟩, ⟨fun j hj => ?_⟩⟩
     by_cases e : j = kk
     ·subst e
      rw [HY.out]; exact hq
     ·exact M.out j (by omega)
  ·have hltd : decide ((kk : Int) < (l0.length : Int)) = false := decide_eq_false (by omega)
   have : kk = l0.length := by omega
   subst this
   go_wp2
   go_ret
   refine ⟨⟨_, rfl, ?_⟩, HB.out⟩
   rw [impl_listOk.miss l0 M.out]
   simp
set_option maxHeartbeats 8000000 in
set_option maxRecDepth 100000 in
theorem impl_listOk.contains (A0 : Option Addr) (c0 : Nat) (l0 : List (S31)) (w : World) (hr0 : Kd.C k31 w A0 l0.length l0) (hall : ∀ x ∈ l0, (impl_PrefixOk.f x.f0.f0 x.f0.f1 x.f0.f2 x.f1).isSome = true) :
  Calls Try.prog 139 #[.slice A0 l0.length c0, .func (.func 140) #[] #[]] w fun e w' => e = .returned (.bool (l0.any impl_listOk.bad)) ∧ Below w.heap.size w w' := by
 have hcall := impl_listOk.index A0 c0 l0 w hr0 hall
 clear hr0 hall
 generalize l0.any impl_listOk.bad = r at hcall ⊢
 go_enter Try.func139, Try.ntmps139
 go_wp2_with (go_at_call 171; refine hcall.mono ?_; rintro e w' ⟨⟨i, rfl, hi⟩, hb'⟩)
 go_ret
 exact ⟨by rw [← hi]; rfl, hb'⟩
set_option maxHeartbeats 8000000 in
set_option maxRecDepth 100000 in
theorem impl_listOk.calls (A0 : Option Addr) (c0 : Nat) (l0 : List (S31)) (r : Bool) (w : World) (hr0 : Kd.C k31 w A0 l0.length l0) (hc0 : l0.length ≤ c0) (h : impl_listOk.f l0 = some r) :
  Calls Try.prog 79 #[.slice A0 l0.length c0] w fun e w' => e = .returned (.bool r) ∧ Below w.heap.size w w' := by
 unfold impl_listOk.f at h
 split at h
 ·rename_i hall
  obtain rfl := Option.some.inj h
  have hall' := List.all_eq_true.1 hall
  have hcall := impl_listOk.contains A0 c0 l0 w hr0 hall'
  clear h hall hall' hr0 hc0
  generalize l0.any impl_listOk.bad = r at hcall ⊢
  by_cases hle : (l0.length : Int) ≤ 300
  ·have hd : decide ((l0.length : Int) ≤ 300) = true := decide_eq_true hle
   rw [hd]
   clear hle
   go_enter Try.func79, Try.ntmps79
   go_wp2_with (go_at_call 139; refine hcall.mono ?_; rintro e w' ⟨rfl, hb'⟩)
   go_ret
   exact ⟨by simp, hb'⟩
  ·have hd : decide ((l0.length : Int) ≤ 300) = false := decide_eq_false hle
   rw [hd]
   clear hle hcall
   go_enter Try.func79, Try.ntmps79
   go_wp2
   go_ret
   exact ⟨by simp, Below.refl _ w⟩
 ·exact absurd h (by simp)

/-! ### impl_Without: function 22 -/
def impl_Without.f (k : Nat) (a0_0 : Bool) (a0_1 : Int) (a0_2 : Int) (a0_3 : Int) (l1 : List (S31)) : Option ((List (S31))) := (impl_PrefixOk.f a0_0 a0_1 a0_2 a0_3).bind fun t294 => (if t294 = true then ((impl_listOk.f l1).bind fun t295 => (if t295 = true then ((impl_without.f k a0_0 a0_1 a0_2 a0_3 l1).bind fun t296 => (some t296)) else (some ([] : List (S31))))) else (some ([] : List (S31))))
theorem impl_Without.mono : ∀ a0 a1 a2 a3 a4 k, LeO (impl_Without.f k a0 a1 a2 a3 a4) (impl_Without.f (k + 1) a0 a1 a2 a3 a4) := by
 intro a0 a1 a2 a3 a4 k
 unfold impl_Without.f
 repeat' first
   | (with_reducible exact impl_without.mono _ _ _ _ _ _)
   | (with_reducible exact LeO.refl _)
   | (with_reducible exact LeO.none _)
   | (with_reducible refine LeO.ite ?_ ?_)
   | (with_reducible refine LeO.bind ?_ (fun _ => ?_))
   | exact impl_without.mono _ _ _ _ _ _
   | exact LeO.none _
   | refine LeO.ite ?_ ?_
   | refine LeO.bind ?_ (fun _ => ?_)
set_option maxHeartbeats 8000000 in
set_option maxRecDepth 100000 in
theorem impl_Without.calls (k : Nat) (a0_0 : Bool) (a0_1 : Int) (a0_2 : Int) (a0_3 : Int) (A1 : Option Addr) (c1 : Nat) (l1 : List (S31)) (r : List (S31)) (w : World) (hr1 : Kd.C k31 w A1 l1.length l1) (hc1 : l1.length ≤ c1) (h : impl_Without.f k a0_0 a0_1 a0_2 a0_3 l1 = some r) :
  Calls Try.prog 22 #[.agg #[.bool a0_0, .int .i64 a0_1, .int .i64 a0_2, .int .i64 a0_3], .slice A1 l1.length c1] w fun e w' => ∃ v0_ : Value, e = .returned (v0_) ∧ Kd.R k31 31 w' w.heap.size (fun _ => True) v0_ r ∧ Below w.heap.size w w' := by
 have hu31 := Try.underlying31
 have HR1 := Aside0.mk hr1
 have HC1 := Aside0.mk hc1
 clear hr1 hc1
 have HB := Aside0.mk (Below.refl w.heap.size w)
 have H : ((impl_PrefixOk.f a0_0 a0_1 a0_2 a0_3).bind fun t294 => (if t294 = true then ((impl_listOk.f l1).bind fun t295 => (if t295 = true then ((impl_without.f k a0_0 a0_1 a0_2 a0_3 l1).bind fun t296 => (some t296)) else (some ([] : List (S31))))) else (some ([] : List (S31))))) = some r := h
 clear h
 replace H := Option.bind_eq_some_iff.mp H
 obtain ⟨t294, A30, H⟩ := H
 replace H : (if t294 = true then ((impl_listOk.f l1).bind fun t295 => (if t295 = true then ((impl_without.f k a0_0 a0_1 a0_2 a0_3 l1).bind fun t296 => (some t296)) else (some ([] : List (S31))))) else (some ([] : List (S31)))) = some r := H
 have A3 := Aside0.mk A30
 clear A30
 by_cases c4 : t294 = true
 ·subst c4
  have H1 : ((impl_listOk.f l1).bind fun t295 => (if t295 = true then ((impl_without.f k a0_0 a0_1 a0_2 a0_3 l1).bind fun t296 => (some t296)) else (some ([] : List (S31))))) = some r := by rw [if_pos rfl] at H; exact H
  clear H
  have H := H1
  clear H1
  replace H := Option.bind_eq_some_iff.mp H
  obtain ⟨t295, A50, H⟩ := H
  replace H : (if t295 = true then ((impl_without.f k a0_0 a0_1 a0_2 a0_3 l1).bind fun t296 => (some t296)) else (some ([] : List (S31)))) = some r := H
  have A5 := Aside0.mk A50
  clear A50
  by_cases c6 : t295 = true
  ·subst c6
   have H1 : ((impl_without.f k a0_0 a0_1 a0_2 a0_3 l1).bind fun t296 => (some t296)) = some r := by rw [if_pos rfl] at H; exact H
   clear H
   have H := H1
   clear H1
   replace H := Option.bind_eq_some_iff.mp H
   obtain ⟨t296, A70, H⟩ := H
   replace H : (some t296) = some r := H
   have A7 := Aside0.mk A70
   clear A70
   obtain rfl := Option.some.inj H
   go_enter Try.func22, Try.ntmps22
   go_wp2_with (first | ((with_reducible refine gate_dst (N := 2) rfl ?_); refine box_event ?hg (N := 2) ?hd (cs := #[.bool a0_0, .int .i64 a0_1, .int .i64 a0_2, .int .i64 a0_3]) (t := 31) ?hr ?_; (case hd => rfl); (case hg => rfl); (case hr => first | (go_simp; done) | (go_simp; rfl)); intro gb293 hg w8 hbox hb; have n0_ := Aside0.mk (below_step (by repeat (first | (with_reducible first | exact HB.out | apply below_alloc | apply pw_below_drewN | apply below_drew1) | exact HB.out)) hb); have n1_ := Aside0.mk (hbox); have n2_ := Aside0.mk ((by rw [hg]; exact (below_size (by repeat (first | (with_reducible first | exact HB.out | apply below_alloc | apply pw_below_drewN | apply below_drew1) | exact HB.out))) : w.heap.size ≤ gb293)); have n3_ := Aside0.mk ((by rw [hg]; exact (below_size (by repeat (first | (with_reducible first | exact HB.out | apply below_alloc | apply pw_below_drewN | apply below_drew1) | exact HB.out))) : w.heap.size ≤ gb293)); clear HB; have HB := n0_; have BK293 := n1_; have GW293 := n2_; have GE293 := n3_; clear n0_ n1_ n2_ n3_; clear hb hbox hg; have hcz9_0 : w8.cell? ⟨gb293, 0, none⟩ = some (.bool a0_0) := (blk_cell BK293.out 0).trans rfl; have hcz9_1 : w8.cell? ⟨gb293, 1, none⟩ = some (.int .i64 a0_1) := (blk_cell BK293.out 1).trans rfl; have hcz9_2 : w8.cell? ⟨gb293, 2, none⟩ = some (.int .i64 a0_2) := (blk_cell BK293.out 2).trans rfl; have hcz9_3 : w8.cell? ⟨gb293, 3, none⟩ = some (.int .i64 a0_3) := (blk_cell BK293.out 3).trans rfl; have hfz9_0 := blk_frozen BK293.out 0; have hfz9_1 := blk_frozen BK293.out 1; have hfz9_2 := blk_frozen BK293.out 2; have hfz9_3 := blk_frozen BK293.out 3) | ((with_reducible refine gate_callee (f := 38) rfl ?_); refine goesL_ (some 6) rfl rfl Try.func38 (by kernel_rfl) rfl #[.agg #[.bool a0_0, .int .i64 a0_1, .int .i64 a0_2, .int .i64 a0_3]] rfl (by (try simp only [List.map_toArray, List.map_cons, List.map_nil]); first | done | rfl | (simp only [List.length_drop, List.length_take]; rfl)) ?_; (with_reducible refine (impl_PrefixOk.calls a0_0 a0_1 a0_2 a0_3 true _ A3.out).mono ?_); rintro e w10 ⟨rfl, hb⟩; refine ⟨_, rfl, ?_⟩; have n0_ := Aside0.mk (blk_below (g := gb293) (o := .cells #[.bool a0_0, .int .i64 a0_1, .int .i64 a0_2, .int .i64 a0_3] 31 (0, 0)) (by (with_reducible repeat (first | apply blk_drewN | apply blk_drew | apply blk_alloc)); exact BK293.out) hb); have n1_ := Aside0.mk (below_step (by repeat (first | (with_reducible first | exact HB.out | apply below_alloc | apply pw_below_drewN | apply below_drew1 | refine below_set ?_ GE293.out) | exact HB.out)) hb); clear BK293; clear HB; have BK293 := n0_; have HB := n1_; clear n0_ n1_; (try clear hb); (try clear hb2); (try clear hk); (try clear hi)) | (go_at_call 79; (with_reducible refine (impl_listOk.calls _ _ l1 true _ ?side1 ?side2 A5.out).mono ?_); (case side1 => repeat (first | exact (Kd.C_below HR1.out HB.out) | (with_reducible refine Kd.C_alloc ?_ _) | (with_reducible refine Kd.C_drewN ?_ _) | (with_reducible refine Kd.C_drew ?_))); (case side2 => exact HC1.out); rintro e w11 ⟨rfl, hb⟩; have n0_ := Aside0.mk (blk_below (g := gb293) (o := .cells #[.bool a0_0, .int .i64 a0_1, .int .i64 a0_2, .int .i64 a0_3] 31 (0, 0)) (by (with_reducible repeat (first | apply blk_drewN | apply blk_drew | apply blk_alloc)); exact BK293.out) hb); have n1_ := Aside0.mk (below_step (by repeat (first | (with_reducible first | exact HB.out | apply below_alloc | apply pw_below_drewN | apply below_drew1 | refine below_set ?_ GE293.out) | exact HB.out)) hb); clear BK293; clear HB; have BK293 := n0_; have HB := n1_; clear n0_ n1_; (try clear hb); (try clear hb2); (try clear hk); (try clear hi); have hcz12_0 : w11.cell? ⟨gb293, 0, none⟩ = some (.bool a0_0) := (blk_cell BK293.out 0).trans rfl; have hcz12_1 : w11.cell? ⟨gb293, 1, none⟩ = some (.int .i64 a0_1) := (blk_cell BK293.out 1).trans rfl; have hcz12_2 : w11.cell? ⟨gb293, 2, none⟩ = some (.int .i64 a0_2) := (blk_cell BK293.out 2).trans rfl; have hcz12_3 : w11.cell? ⟨gb293, 3, none⟩ = some (.int .i64 a0_3) := (blk_cell BK293.out 3).trans rfl; have hfz12_0 := blk_frozen BK293.out 0; have hfz12_1 := blk_frozen BK293.out 1; have hfz12_2 := blk_frozen BK293.out 2; have hfz12_3 := blk_frozen BK293.out 3) | ((with_reducible refine gate_callee (f := 76) rfl ?_); refine goesL_ (some 15) rfl rfl Try.func76 (by kernel_rfl) rfl #[.agg #[.bool a0_0, .int .i64 a0_1, .int .i64 a0_2, .int .i64 a0_3], .slice A1 l1.length c1] rfl (by (try simp only [List.map_toArray, List.map_cons, List.map_nil]); first | done | rfl | (simp only [List.length_drop, List.length_take]; rfl)) ?_; (with_reducible refine (impl_without.calls k a0_0 a0_1 a0_2 a0_3 _ _ l1 t296 _ ?side1 ?side2 A7.out).mono ?_); (case side1 => repeat (first | exact (Kd.C_below HR1.out HB.out) | (with_reducible refine Kd.C_alloc ?_ _) | (with_reducible refine Kd.C_drewN ?_ _) | (with_reducible refine Kd.C_drew ?_))); (case side2 => exact HC1.out); rintro e w13 ⟨v297, rfl, ho0, hb⟩; refine ⟨_, rfl, ?_⟩; have n0_ := Aside0.mk (Kd.R_lower (Kd.R_newB ho0 (g := gb293) (o := .cells #[.bool a0_0, .int .i64 a0_1, .int .i64 a0_2, .int .i64 a0_3] 31 (0, 0)) (by (with_reducible repeat (first | apply blk_drewN | apply blk_drew | apply blk_alloc)); exact BK293.out)) (below_size (by repeat (first | (with_reducible first | exact HB.out | apply below_alloc | apply pw_below_drewN | apply below_drew1 | refine below_set ?_ GE293.out) | exact HB.out)))); have n1_ := Aside0.mk (blk_below (g := gb293) (o := .cells #[.bool a0_0, .int .i64 a0_1, .int .i64 a0_2, .int .i64 a0_3] 31 (0, 0)) (by (with_reducible repeat (first | apply blk_drewN | apply blk_drew | apply blk_alloc)); exact BK293.out) hb); have n2_ := Aside0.mk (below_step (by repeat (first | (with_reducible first | exact HB.out | apply below_alloc | apply pw_below_drewN | apply below_drew1 | refine below_set ?_ GE293.out) | exact HB.out)) hb); clear BK293; clear HB; have HO298 := n0_; have BK293 := n1_; have HB := n2_; clear n0_ n1_ n2_; (try clear hb); (try clear hb2); (try clear hk); (try clear hi); (try clear ho0)))
   go_ret
   exact ⟨_, by first | rfl | (simp [errW_none, errW_some] <;> rfl) | (simp [*, errW_none, errW_some] <;> rfl), by (with_reducible repeat (first | apply Kd.R_alloc | apply Kd.R_drewN | apply Kd.R_drew)); exact Kd.R_mono HO298.out (fun _ hk => trivial), by repeat (first | (with_reducible first | exact HB.out | apply below_alloc | apply pw_below_drewN | apply below_drew1 | refine below_set ?_ GE293.out) | exact HB.out)⟩
  ·replace c6 := Bool.eq_false_iff.mpr c6
   subst c6
   have H1 : (some ([] : List (S31))) = some r := by rw [if_neg (show ¬ (false = true) by decide)] at H; exact H
   clear H
   have H := H1
   clear H1
   obtain rfl := Option.some.inj H
   go_enter Try.func22, Try.ntmps22
   go_wp2_with (first | ((with_reducible refine gate_dst (N := 2) rfl ?_); refine box_event ?hg (N := 2) ?hd (cs := #[.bool a0_0, .int .i64 a0_1, .int .i64 a0_2, .int .i64 a0_3]) (t := 31) ?hr ?_; (case hd => rfl); (case hg => rfl); (case hr => first | (go_simp; done) | (go_simp; rfl)); intro gb293 hg w14 hbox hb; have n0_ := Aside0.mk (below_step (by repeat (first | (with_reducible first | exact HB.out | apply below_alloc | apply pw_below_drewN | apply below_drew1) | exact HB.out)) hb); have n1_ := Aside0.mk (hbox); have n2_ := Aside0.mk ((by rw [hg]; exact (below_size (by repeat (first | (with_reducible first | exact HB.out | apply below_alloc | apply pw_below_drewN | apply below_drew1) | exact HB.out))) : w.heap.size ≤ gb293)); have n3_ := Aside0.mk ((by rw [hg]; exact (below_size (by repeat (first | (with_reducible first | exact HB.out | apply below_alloc | apply pw_below_drewN | apply below_drew1) | exact HB.out))) : w.heap.size ≤ gb293)); clear HB; have HB := n0_; have BK293 := n1_; have GW293 := n2_; have GE293 := n3_; clear n0_ n1_ n2_ n3_; clear hb hbox hg; have hcz15_0 : w14.cell? ⟨gb293, 0, none⟩ = some (.bool a0_0) := (blk_cell BK293.out 0).trans rfl; have hcz15_1 : w14.cell? ⟨gb293, 1, none⟩ = some (.int .i64 a0_1) := (blk_cell BK293.out 1).trans rfl; have hcz15_2 : w14.cell? ⟨gb293, 2, none⟩ = some (.int .i64 a0_2) := (blk_cell BK293.out 2).trans rfl; have hcz15_3 : w14.cell? ⟨gb293, 3, none⟩ = some (.int .i64 a0_3) := (blk_cell BK293.out 3).trans rfl; have hfz15_0 := blk_frozen BK293.out 0; have hfz15_1 := blk_frozen BK293.out 1; have hfz15_2 := blk_frozen BK293.out 2; have hfz15_3 := blk_frozen BK293.out 3) | ((with_reducible refine gate_callee (f := 38) rfl ?_); refine goesL_ (some 6) rfl rfl Try.func38 (by kernel_rfl) rfl #[.agg #[.bool a0_0, .int .i64 a0_1, .int .i64 a0_2, .int .i64 a0_3]] rfl (by (try simp only [List.map_toArray, List.map_cons, List.map_nil]); first | done | rfl | (simp only [List.length_drop, List.length_take]; rfl)) ?_; (with_reducible refine (impl_PrefixOk.calls a0_0 a0_1 a0_2 a0_3 true _ A3.out).mono ?_); rintro e w16 ⟨rfl, hb⟩; refine ⟨_, rfl, ?_⟩; have n0_ := Aside0.mk (blk_below (g := gb293) (o := .cells #[.bool a0_0, .int .i64 a0_1, .int .i64 a0_2, .int .i64 a0_3] 31 (0, 0)) (by (with_reducible repeat (first | apply blk_drewN | apply blk_drew | apply blk_alloc)); exact BK293.out) hb); have n1_ := Aside0.mk (below_step (by repeat (first | (with_reducible first | exact HB.out | apply below_alloc | apply pw_below_drewN | apply below_drew1 | refine below_set ?_ GE293.out) | exact HB.out)) hb); clear BK293; clear HB; have BK293 := n0_; have HB := n1_; clear n0_ n1_; (try clear hb); (try clear hb2); (try clear hk); (try clear hi)) | (go_at_call 79; (with_reducible refine (impl_listOk.calls _ _ l1 false _ ?side1 ?side2 A5.out).mono ?_); (case side1 => repeat (first | exact (Kd.C_below HR1.out HB.out) | (with_reducible refine Kd.C_alloc ?_ _) | (with_reducible refine Kd.C_drewN ?_ _) | (with_reducible refine Kd.C_drew ?_))); (case side2 => exact HC1.out); rintro e w17 ⟨rfl, hb⟩; have n0_ := Aside0.mk (blk_below (g := gb293) (o := .cells #[.bool a0_0, .int .i64 a0_1, .int .i64 a0_2, .int .i64 a0_3] 31 (0, 0)) (by (with_reducible repeat (first | apply blk_drewN | apply blk_drew | apply blk_alloc)); exact BK293.out) hb); have n1_ := Aside0.mk (below_step (by repeat (first | (with_reducible first | exact HB.out | apply below_alloc | apply pw_below_drewN | apply below_drew1 | refine below_set ?_ GE293.out) | exact HB.out)) hb); clear BK293; clear HB; have BK293 := n0_; have HB := n1_; clear n0_ n1_; (try clear hb); (try clear hb2); (try clear hk); (try clear hi)))
   go_ret
   exact ⟨_, by first | rfl | (simp [errW_none, errW_some] <;> rfl) | (simp [*, errW_none, errW_some] <;> rfl), by first | exact Kd.R_nil _ _ _ _ _ | exact Kd.N_nil _ _ _ _ _ | exact Kd.V_nil _ _ _ _ _ | exact Kd.Q_nil _ _ _ _ _ | exact Kd.S_nil _ _ _ _ _, by repeat (first | (with_reducible first | exact HB.out | apply below_alloc | apply pw_below_drewN | apply below_drew1 | refine below_set ?_ GE293.out) | exact HB.out)⟩
 ·replace c4 := Bool.eq_false_iff.mpr c4
  subst c4
  have H1 : (some ([] : List (S31))) = some r := by rw [if_neg (show ¬ (false = true) by decide)] at H; exact H
  clear H
  have H := H1
  clear H1
  obtain rfl := Option.some.inj H
  go_enter Try.func22, Try.ntmps22
  go_wp2_with (first | ((with_reducible refine gate_dst (N := 2) rfl ?_); refine box_event ?hg (N := 2) ?hd (cs := #[.bool a0_0, .int .i64 a0_1, .int .i64 a0_2, .int .i64 a0_3]) (t := 31) ?hr ?_; (case hd => rfl); (case hg => rfl); (case hr => first | (go_simp; done) | (go_simp; rfl)); intro gb293 hg w18 hbox hb; have n0_ := Aside0.mk (below_step (by repeat (first | (with_reducible first | exact HB.out | apply below_alloc | apply pw_below_drewN | apply below_drew1) | exact HB.out)) hb); have n1_ := Aside0.mk (hbox); have n2_ := Aside0.mk ((by rw [hg]; exact (below_size (by repeat (first | (with_reducible first | exact HB.out | apply below_alloc | apply pw_below_drewN | apply below_drew1) | exact HB.out))) : w.heap.size ≤ gb293)); have n3_ := Aside0.mk ((by rw [hg]; exact (below_size (by repeat (first | (with_reducible first | exact HB.out | apply below_alloc | apply pw_below_drewN | apply below_drew1) | exact HB.out))) : w.heap.size ≤ gb293)); clear HB; have HB := n0_; have BK293 := n1_; have GW293 := n2_; have GE293 := n3_; clear n0_ n1_ n2_ n3_; clear hb hbox hg; have hcz19_0 : w18.cell? ⟨gb293, 0, none⟩ = some (.bool a0_0) := (blk_cell BK293.out 0).trans rfl; have hcz19_1 : w18.cell? ⟨gb293, 1, none⟩ = some (.int .i64 a0_1) := (blk_cell BK293.out 1).trans rfl; have hcz19_2 : w18.cell? ⟨gb293, 2, none⟩ = some (.int .i64 a0_2) := (blk_cell BK293.out 2).trans rfl; have hcz19_3 : w18.cell? ⟨gb293, 3, none⟩ = some (.int .i64 a0_3) := (blk_cell BK293.out 3).trans rfl; have hfz19_0 := blk_frozen BK293.out 0; have hfz19_1 := blk_frozen BK293.out 1; have hfz19_2 := blk_frozen BK293.out 2; have hfz19_3 := blk_frozen BK293.out 3) | ((with_reducible refine gate_callee (f := 38) rfl ?_); refine goesL_ (some 6) rfl rfl Try.func38 (by kernel_rfl) rfl #[.agg #[.bool a0_0, .int .i64 a0_1, .int .i64 a0_2, .int .i64 a0_3]] rfl (by (try simp only [List.map_toArray, List.map_cons, List.map_nil]); first | done | rfl | (simp only [List.length_drop, List.length_take]; rfl)) ?_; (with_reducible refine (impl_PrefixOk.calls a0_0 a0_1 a0_2 a0_3 false _ A3.out).mono ?_); rintro e w20 ⟨rfl, hb⟩; refine ⟨_, rfl, ?_⟩; have n0_ := Aside0.mk (blk_below (g := gb293) (o := .cells #[.bool a0_0, .int .i64 a0_1, .int .i64 a0_2, .int .i64 a0_3] 31 (0, 0)) (by (with_reducible repeat (first | apply blk_drewN | apply blk_drew | apply blk_alloc)); exact BK293.out) hb); have n1_ := Aside0.mk (below_step (by repeat (first | (with_reducible first | exact HB.out | apply below_alloc | apply pw_below_drewN | apply below_drew1 | refine below_set ?_ GE293.out) | exact HB.out)) hb); clear BK293; clear HB; have BK293 := n0_; have HB := n1_; clear n0_ n1_; (try clear hb); (try clear hb2); (try clear hk); (try clear hi)))
  go_ret
  exact ⟨_, by first | rfl | (simp [errW_none, errW_some] <;> rfl) | (simp [*, errW_none, errW_some] <;> rfl), by first | exact Kd.R_nil _ _ _ _ _ | exact Kd.N_nil _ _ _ _ _ | exact Kd.V_nil _ _ _ _ _ | exact Kd.Q_nil _ _ _ _ _ | exact Kd.S_nil _ _ _ _ _, by repeat (first | (with_reducible first | exact HB.out | apply below_alloc | apply pw_below_drewN | apply below_drew1 | refine below_set ?_ GE293.out) | exact HB.out)⟩

/-! ### laws_markPrefixS: function 23 -/
def laws_markPrefixS.l0 : Nat → List (S31) → Int → Int → Option (Int × (List (S31)))
 | 0, _, _, _ => none
 | k + 1, x0, x1, x5 => if x5 < (x0.length : Int) then (if 0 ≤ x5 then ((some (x0.set (x5 : Int).toNat (⟨(⟨((Int.tmod x1 3) == 0), (rd_T31 x0 x5).f0.f1, (rd_T31 x0 x5).f0.f2⟩ : S29), (rd_T31 x0 x5).f1⟩ : S31) : List (S31))).bind fun y299 => ((some (y299.set (x5 : Int).toNat (⟨(⟨(rd_T31 y299 x5).f0.f0, wrap64 (x1 + 1), (rd_T31 y299 x5).f0.f2⟩ : S29), (rd_T31 y299 x5).f1⟩ : S31) : List (S31))).bind fun y300 => ((some (y300.set (x5 : Int).toNat (⟨(⟨(rd_T31 y300 x5).f0.f0, (rd_T31 y300 x5).f0.f1, wrap64 ((wrap64 (x1 + 1)) + 1)⟩ : S29), (rd_T31 y300 x5).f1⟩ : S31) : List (S31))).bind fun y301 => (laws_markPrefixS.l0 k (y301.set (x5 : Int).toNat (⟨(⟨(rd_T31 y301 x5).f0.f0, (rd_T31 y301 x5).f0.f1, (rd_T31 y301 x5).f0.f2⟩ : S29), wrap64 ((wrap64 ((wrap64 (x1 + 1)) + 1)) + 1)⟩ : S31)) (wrap64 ((wrap64 ((wrap64 ((wrap64 (x1 + 1)) + 1)) + 1)) + 1)) (wrap64 (x5 + 1)))))) else (none)) else (some (x1, x0))
def laws_markPrefixS.f (k : Nat) (l0 : List (S31)) (a1 : Int) : Option (Int × (List (S31))) := laws_markPrefixS.l0 k l0 a1 0
theorem laws_markPrefixS.mono_l : ∀ k, (∀ y0 y1 y2, LeO (laws_markPrefixS.l0 k y0 y1 y2) (laws_markPrefixS.l0 (k + 1) y0 y1 y2))
 | 0 => fun _ _ _ r h => by simp [laws_markPrefixS.l0] at h
 | k + 1 => by
  have ih0 := laws_markPrefixS.mono_l k
  ·intro y0 y1 y2
   unfold laws_markPrefixS.l0
   repeat' first
   | (with_reducible exact ih0 _ _ _)
   | (with_reducible exact LeO.refl _)
   | (with_reducible exact LeO.none _)
   | (with_reducible refine LeO.ite ?_ ?_)
   | (with_reducible refine LeO.bind ?_ (fun _ => ?_))
   | exact ih0 _ _ _
   | exact LeO.none _
   | refine LeO.ite ?_ ?_
   | refine LeO.bind ?_ (fun _ => ?_)
theorem laws_markPrefixS.mono : ∀ a0 a1 k, LeO (laws_markPrefixS.f k a0 a1) (laws_markPrefixS.f (k + 1) a0 a1) := by
 intro a0 a1 k
 have ih0 := laws_markPrefixS.mono_l k
 unfold laws_markPrefixS.f
 repeat' first
   | (with_reducible exact ih0 _ _ _)
   | (with_reducible exact LeO.refl _)
   | (with_reducible exact LeO.none _)
   | (with_reducible refine LeO.ite ?_ ?_)
   | (with_reducible refine LeO.bind ?_ (fun _ => ?_))
   | exact ih0 _ _ _
   | exact LeO.none _
   | refine LeO.ite ?_ ?_
   | refine LeO.bind ?_ (fun _ => ?_)
set_option maxHeartbeats 8000000 in
set_option maxRecDepth 100000 in
theorem laws_markPrefixS.calls (k : Nat) (P0_ : Nat → Prop) (u9000_ : Value) (l0 : List (S31)) (a1 : Int) (r1 : Int) (r2 : List (S31)) (w0 w : World) (hB : Below w0.heap.size w0 w) (ho0 : Kd.R k31 31 w w0.heap.size P0_ u9000_ l0) (h : laws_markPrefixS.f k l0 a1 = some (r1, r2)) :
  Calls Try.prog 23 #[u9000_, .int .i64 a1] w fun e w' => e = .returned (.int .i64 r1) ∧ Kd.R k31 31 w' w0.heap.size (fun k_ => (P0_ k_ ∨ w.heap.size ≤ k_)) u9000_ r2 ∧ Below w0.heap.size w0 w' ∧ Kept w w' (fun k_ => P0_ k_) := by
 have HO0 := Aside0.mk (show Kd.R k31 31 w w0.heap.size (fun k_ => (P0_ k_ ∨ w.heap.size ≤ k_)) u9000_ l0 from Kd.R_mono ho0 (fun k_ hk => (.inl hk)))
 have HK := Aside0.mk (Kept.refl w (fun k_ => P0_ k_))
 have HW0 := Aside0.mk hB.size
 have HB := Aside0.mk hB
 clear hB
 have H : (laws_markPrefixS.l0 k l0 a1 0) = some (r1, r2) := h
 clear h
 have H' := Aside0.mk H
 clear H
 go_enter Try.func23, Try.ntmps23
 go_wp2
 go_loopg [1, 5] k (fun kq v1 v5 w' => ∃ (x0_1 : List (S31)) (x1_1 : Int) (x5_1 : Int), v1 = .int .i64 x1_1 ∧ v5 = .int .i64 x5_1 ∧ Aside0 (laws_markPrefixS.l0 kq x0_1 x1_1 x5_1 = some (r1, r2)) ∧ Aside0 (kq ≤ k) ∧ Aside0 (Kd.R k31 31 w' w0.heap.size (fun k_ => (P0_ k_ ∨ w.heap.size ≤ k_)) u9000_ x0_1) ∧ Aside0 (Kept w w' (fun k_ => P0_ k_)) ∧ Aside0 (Below w0.heap.size w0 w'))
 case atStart => exact ⟨(l0), (a1), (0), (by first | rfl | (simp; done) | (simp [*]; done)), (by first | rfl | (simp; done) | (simp [*]; done)), H', ⟨Nat.le_refl _⟩, ⟨by (with_reducible repeat (first | apply Kd.R_alloc | apply Kd.R_drewN | apply Kd.R_drew)); exact HO0.out⟩, ⟨by repeat (first | (with_reducible first | exact HK.out | apply Kept.alloc | apply Kept.drewN | apply Kept.drew) | exact HK.out)⟩, ⟨by repeat (first | (with_reducible first | exact HB.out | apply below_alloc | apply pw_below_drewN | apply below_drew1) | exact HB.out)⟩⟩
 case round =>
  clear H'
  try clear c2
  try clear p2
  obtain ⟨x0_1, x1_1, x5_1, rfl, rfl, HA, HK1, HO_0, HK, HB⟩ := hrel
  cases gk with
  | zero => exact absurd HA.out (by simp [laws_markPrefixS.l0])
  | succ k1 =>
   have H := HA.out
   clear HA
   simp only [laws_markPrefixS.l0] at H
   by_cases c3 : x5_1 < (x0_1.length : Int)
   ·rw [if_pos c3] at H
    have c3b0 : decide (x5_1 < (x0_1.length : Int)) = true := decide_eq_true c3
    clear c3
    by_cases c4 : 0 ≤ x5_1
    ·rw [if_pos c4] at H
     have c4b0 : decide (0 ≤ x5_1) = true := decide_eq_true c4
     clear c4
     obtain ⟨y299, hy299⟩ : ∃ y_ : List (S31), y_ = (x0_1.set (x5_1 : Int).toNat (⟨(⟨((Int.tmod x1_1 3) == 0), (rd_T31 x0_1 x5_1).f0.f1, (rd_T31 x0_1 x5_1).f0.f2⟩ : S29), (rd_T31 x0_1 x5_1).f1⟩ : S31)) := ⟨_, rfl⟩
     replace H : ((some (y299.set (x5_1 : Int).toNat (⟨(⟨(rd_T31 y299 x5_1).f0.f0, wrap64 (x1_1 + 1), (rd_T31 y299 x5_1).f0.f2⟩ : S29), (rd_T31 y299 x5_1).f1⟩ : S31) : List (S31))).bind fun y300 => ((some (y300.set (x5_1 : Int).toNat (⟨(⟨(rd_T31 y300 x5_1).f0.f0, (rd_T31 y300 x5_1).f0.f1, wrap64 ((wrap64 (x1_1 + 1)) + 1)⟩ : S29), (rd_T31 y300 x5_1).f1⟩ : S31) : List (S31))).bind fun y301 => (laws_markPrefixS.l0 k1 (y301.set (x5_1 : Int).toNat (⟨(⟨(rd_T31 y301 x5_1).f0.f0, (rd_T31 y301 x5_1).f0.f1, (rd_T31 y301 x5_1).f0.f2⟩ : S29), wrap64 ((wrap64 ((wrap64 (x1_1 + 1)) + 1)) + 1)⟩ : S31)) (wrap64 ((wrap64 ((wrap64 ((wrap64 (x1_1 + 1)) + 1)) + 1)) + 1)) (wrap64 (x5_1 + 1))))) = some (r1, r2) := by first | (rw [hy299]; with_reducible exact H) | (have H2_ := (Option.bind_some _ _).symm.trans H; rw [hy299]; with_reducible exact H2_) | (have H2_ := (Option.bind_some _ _).symm.trans H; with_reducible exact H2_) | with_reducible exact H | (rw [hy299]; exact H) | exact H
     have Ny299 := Aside0.mk hy299
     clear hy299
     obtain ⟨y300, hy300⟩ : ∃ y_ : List (S31), y_ = (y299.set (x5_1 : Int).toNat (⟨(⟨(rd_T31 y299 x5_1).f0.f0, wrap64 (x1_1 + 1), (rd_T31 y299 x5_1).f0.f2⟩ : S29), (rd_T31 y299 x5_1).f1⟩ : S31)) := ⟨_, rfl⟩
     replace H : ((some (y300.set (x5_1 : Int).toNat (⟨(⟨(rd_T31 y300 x5_1).f0.f0, (rd_T31 y300 x5_1).f0.f1, wrap64 ((wrap64 (x1_1 + 1)) + 1)⟩ : S29), (rd_T31 y300 x5_1).f1⟩ : S31) : List (S31))).bind fun y301 => (laws_markPrefixS.l0 k1 (y301.set (x5_1 : Int).toNat (⟨(⟨(rd_T31 y301 x5_1).f0.f0, (rd_T31 y301 x5_1).f0.f1, (rd_T31 y301 x5_1).f0.f2⟩ : S29), wrap64 ((wrap64 ((wrap64 (x1_1 + 1)) + 1)) + 1)⟩ : S31)) (wrap64 ((wrap64 ((wrap64 ((wrap64 (x1_1 + 1)) + 1)) + 1)) + 1)) (wrap64 (x5_1 + 1)))) = some (r1, r2) := by first | (rw [hy300]; with_reducible exact H) | (have H2_ := (Option.bind_some _ _).symm.trans H; rw [hy300]; with_reducible exact H2_) | (have H2_ := (Option.bind_some _ _).symm.trans H; with_reducible exact H2_) | with_reducible exact H | (rw [hy300]; exact H) | exact H
     have Ny300 := Aside0.mk hy300
     clear hy300
     obtain ⟨y301, hy301⟩ : ∃ y_ : List (S31), y_ = (y300.set (x5_1 : Int).toNat (⟨(⟨(rd_T31 y300 x5_1).f0.f0, (rd_T31 y300 x5_1).f0.f1, wrap64 ((wrap64 (x1_1 + 1)) + 1)⟩ : S29), (rd_T31 y300 x5_1).f1⟩ : S31)) := ⟨_, rfl⟩
     replace H : (laws_markPrefixS.l0 k1 (y301.set (x5_1 : Int).toNat (⟨(⟨(rd_T31 y301 x5_1).f0.f0, (rd_T31 y301 x5_1).f0.f1, (rd_T31 y301 x5_1).f0.f2⟩ : S29), wrap64 ((wrap64 ((wrap64 (x1_1 + 1)) + 1)) + 1)⟩ : S31)) (wrap64 ((wrap64 ((wrap64 ((wrap64 (x1_1 + 1)) + 1)) + 1)) + 1)) (wrap64 (x5_1 + 1))) = some (r1, r2) := by first | (rw [hy301]; with_reducible exact H) | (have H2_ := (Option.bind_some _ _).symm.trans H; rw [hy301]; with_reducible exact H2_) | (have H2_ := (Option.bind_some _ _).symm.trans H; with_reducible exact H2_) | with_reducible exact H | (rw [hy301]; exact H) | exact H
     have Ny301 := Aside0.mk hy301
     clear hy301
     obtain ⟨y302, hy302⟩ : ∃ y_ : List (S31), y_ = (y301.set (x5_1 : Int).toNat (⟨(⟨(rd_T31 y301 x5_1).f0.f0, (rd_T31 y301 x5_1).f0.f1, (rd_T31 y301 x5_1).f0.f2⟩ : S29), wrap64 ((wrap64 ((wrap64 (x1_1 + 1)) + 1)) + 1)⟩ : S31)) := ⟨_, rfl⟩
     replace H : (laws_markPrefixS.l0 k1 y302 (wrap64 ((wrap64 ((wrap64 ((wrap64 (x1_1 + 1)) + 1)) + 1)) + 1)) (wrap64 (x5_1 + 1))) = some (r1, r2) := by first | (rw [hy302]; with_reducible exact H) | (have H2_ := (Option.bind_some _ _).symm.trans H; rw [hy302]; with_reducible exact H2_) | (have H2_ := (Option.bind_some _ _).symm.trans H; with_reducible exact H2_) | with_reducible exact H | (rw [hy302]; exact H) | exact H
     have Ny302 := Aside0.mk hy302
     clear hy302
     have H' := Aside0.mk H
     clear H
     obtain ⟨Ao9, co9, eo9⟩ := Kd.R_slice HO_0.out
     subst eo9
     have p5 : 0 ≤ (x5_1 : Int) := of_decide_eq_true (by first | (with_reducible assumption) | assumption)
     have q5 : (x5_1 : Int) < ((x0_1.length : Int) : Int) := of_decide_eq_true (by first | (with_reducible assumption) | assumption)
     obtain ⟨go5, co5, eo5, gb5, gl5, cl5, HG5⟩ := Kd.R_form HO_0.out (by omega)
     (first | cases eo5 | (injection eo5 with ea_ en_ ec_; (first | subst ea_ | (injection ea_ with ea_; subst ea_)); subst ec_; clear en_))
     have GB5 := Aside0.mk gb5
     have GG5 := Aside0.mk HG5
     clear gb5 gl5 HG5
     have HMgo5 := Aside0.mk (show (P0_ go5 ∨ w.heap.size ≤ go5) from (HO_0.out.1 _ rfl))
     obtain ⟨ce5, hcl5, hM5, hcc5, hfr5⟩ := Kd.R_elem HO_0.out z31 (x5_1 : Int) p5 q5
     obtain rfl := k31_openM hM5
     have hx5_0 : wr.cell? ⟨go5, (x5_1 : Int).toNat * 4, none⟩ = some (.bool ((rd_T31 x0_1 x5_1).f0.f0)) := hcc5 0 _ rfl
     have hx5_1 : wr.cell? ⟨go5, (x5_1 : Int).toNat * 4 + 1, none⟩ = some (.int .i64 ((rd_T31 x0_1 x5_1).f0.f1)) := hcc5 1 _ rfl
     have hx5_2 : wr.cell? ⟨go5, (x5_1 : Int).toNat * 4 + 2, none⟩ = some (.int .i64 ((rd_T31 x0_1 x5_1).f0.f2)) := hcc5 2 _ rfl
     have hx5_3 : wr.cell? ⟨go5, (x5_1 : Int).toNat * 4 + 3, none⟩ = some (.int .i64 ((rd_T31 x0_1 x5_1).f1)) := hcc5 3 _ rfl
     have hf5_0 : wr.frozen? ⟨go5, (x5_1 : Int).toNat * 4, none⟩ = false := hfr5 0
     have hf5_1 : wr.frozen? ⟨go5, (x5_1 : Int).toNat * 4 + 1, none⟩ = false := hfr5 1
     have hf5_2 : wr.frozen? ⟨go5, (x5_1 : Int).toNat * 4 + 2, none⟩ = false := hfr5 2
     have hf5_3 : wr.frozen? ⟨go5, (x5_1 : Int).toNat * 4 + 3, none⟩ = false := hfr5 3
     clear hcl5 hcc5 hfr5 hM5
     replace p5 := eq_true p5
     replace q5 := eq_true q5
     have HX10 := Aside0.mk (show Kd.R k31 31 wr w0.heap.size (fun k_ => (P0_ k_ ∨ w.heap.size ≤ k_)) (.slice (some ⟨go5, 0, none⟩) x0_1.length co9) x0_1 from (by (with_reducible repeat (first | apply Kd.R_alloc | apply Kd.R_drewN | apply Kd.R_drew)); exact HO_0.out))
     obtain ⟨ce10, hcl10, hM10, hcc10, hfr10⟩ := Kd.R_elem HX10.out z31 (x5_1 : Int) (of_decide_eq_true (by first | (with_reducible assumption) | assumption)) (by have h_ : (x5_1 : Int) < ((x0_1.length : Int) : Int) := of_decide_eq_true (by first | (with_reducible assumption) | assumption); first | exact h_ | (have e_ := (Kd.R_reads' HO_0.out).1; omega) | simpa using h_)
     obtain rfl := k31_openM hM10
     have HP10 := Kd.R_seg HX10.out (x5_1 : Int) (of_decide_eq_true (by first | (with_reducible assumption) | assumption)) (by have h_ : (x5_1 : Int) < ((x0_1.length : Int) : Int) := of_decide_eq_true (by first | (with_reducible assumption) | assumption); first | exact h_ | (have e_ := (Kd.R_reads' HO_0.out).1; omega) | simpa using h_) (seg := [.bool ((Int.tmod x1_1 3) == 0)]) (j := 0) hcl10 hcc10 (show 1 ≤ 4 from by decide) (x' := (⟨(⟨((Int.tmod x1_1 3) == 0), (rd_T31 x0_1 x5_1).f0.f1, (rd_T31 x0_1 x5_1).f0.f2⟩ : S29), (rd_T31 x0_1 x5_1).f1⟩ : S31)) (k31_mkM _ _ _ (⟨(⟨((Int.tmod x1_1 3) == 0), (rd_T31 x0_1 x5_1).f0.f1, (rd_T31 x0_1 x5_1).f0.f2⟩ : S29), (rd_T31 x0_1 x5_1).f1⟩ : S31) ) (fun _ hk => hk)
     have hx10_0 := hcc10 0 _ rfl
     (try simp only [show (k31).sz = 4 from rfl, Nat.mul_one, Nat.add_zero] at hx10_0)
     have hf10_0 := hfr10 0
     (try simp only [show (k31).sz = 4 from rfl, Nat.mul_one, Nat.add_zero] at hf10_0)
     clear hcl10 hcc10 hfr10 hM10
     go_wp2_with (first | ((with_reducible refine gate_store (t := 4) (p := 19) rfl ?_); refine store_event (t := 4) (p := 19) (v := ?vo_w11) (w1 := (wr.setCell ⟨go5, (x5_1 : Int).toNat * 4, none⟩ (.bool ((Int.tmod x1_1 3) == 0)))) ?hg ?ho ?hn ?hr ?_; (case ho => rfl); (case hg => rfl); (case hn => rfl); (case hr => first | (go_simp; done) | (go_simp; rfl)); intro w11 hw; have hg : wr.grownBy w11 (some go5) := (by rw [hw]; exact HP10.2); have hp_ : Kd.R k31 31 w11 w0.heap.size (fun k_ => (P0_ k_ ∨ w.heap.size ≤ k_)) (.slice (some ⟨go5, 0, none⟩) x0_1.length co9) y299 := (by rw [hw, Ny299.out]; exact HP10.1); clear HP10; have n0_ := Aside0.mk (hp_); have n1_ := Aside0.mk ((by rw [hw]; exact below_set (HB.out) GB5.out : Below w0.heap.size w0 w11)); have n2_ := Aside0.mk (Kept.of_grown (S := (fun k_ => P0_ k_)) hg (by repeat (first | (with_reducible first | exact HK.out | apply Kept.alloc | apply Kept.drewN | apply Kept.drew) | exact HK.out)) (fun k_ e_ => (HO_0.out.1 k_ e_))); clear HO_0; clear HB; clear HK; have HO_0 := n0_; have HB := n1_; have HK := n2_; clear n0_ n1_ n2_; clear hg hw hp_; have p6 : 0 ≤ (x5_1 : Int) := of_decide_eq_true (by first | (with_reducible assumption) | assumption); have q6 : (x5_1 : Int) < ((x0_1.length : Int) : Int) := of_decide_eq_true (by first | (with_reducible assumption) | assumption); obtain ⟨ce6, hcl6, hM6, hcc6, hfr6⟩ := Kd.R_elem HO_0.out z31 (x5_1 : Int) p6 q6; obtain rfl := k31_openM hM6; have hx6_0 : w11.cell? ⟨go5, (x5_1 : Int).toNat * 4, none⟩ = some (.bool ((rd_T31 y299 x5_1).f0.f0)) := hcc6 0 _ rfl; have hx6_1 : w11.cell? ⟨go5, (x5_1 : Int).toNat * 4 + 1, none⟩ = some (.int .i64 ((rd_T31 y299 x5_1).f0.f1)) := hcc6 1 _ rfl; have hx6_2 : w11.cell? ⟨go5, (x5_1 : Int).toNat * 4 + 2, none⟩ = some (.int .i64 ((rd_T31 y299 x5_1).f0.f2)) := hcc6 2 _ rfl; have hx6_3 : w11.cell? ⟨go5, (x5_1 : Int).toNat * 4 + 3, none⟩ = some (.int .i64 ((rd_T31 y299 x5_1).f1)) := hcc6 3 _ rfl; have hf6_0 : w11.frozen? ⟨go5, (x5_1 : Int).toNat * 4, none⟩ = false := hfr6 0; have hf6_1 : w11.frozen? ⟨go5, (x5_1 : Int).toNat * 4 + 1, none⟩ = false := hfr6 1; have hf6_2 : w11.frozen? ⟨go5, (x5_1 : Int).toNat * 4 + 2, none⟩ = false := hfr6 2; have hf6_3 : w11.frozen? ⟨go5, (x5_1 : Int).toNat * 4 + 3, none⟩ = false := hfr6 3; clear hcl6 hcc6 hfr6 hM6; replace p6 := eq_true p6; replace q6 := eq_true q6; have HX12 := Aside0.mk (show Kd.R k31 31 w11 w0.heap.size (fun k_ => (P0_ k_ ∨ w.heap.size ≤ k_)) (.slice (some ⟨go5, 0, none⟩) x0_1.length co9) y299 from (by (with_reducible repeat (first | apply Kd.R_alloc | apply Kd.R_drewN | apply Kd.R_drew)); exact HO_0.out)); obtain ⟨ce12, hcl12, hM12, hcc12, hfr12⟩ := Kd.R_elem HX12.out z31 (x5_1 : Int) (of_decide_eq_true (by first | (with_reducible assumption) | assumption)) (by have h_ : (x5_1 : Int) < ((x0_1.length : Int) : Int) := of_decide_eq_true (by first | (with_reducible assumption) | assumption); first | exact h_ | (have e_ := (Kd.R_reads' HO_0.out).1; omega) | simpa using h_); obtain rfl := k31_openM hM12; have HP12 := Kd.R_seg HX12.out (x5_1 : Int) (of_decide_eq_true (by first | (with_reducible assumption) | assumption)) (by have h_ : (x5_1 : Int) < ((x0_1.length : Int) : Int) := of_decide_eq_true (by first | (with_reducible assumption) | assumption); first | exact h_ | (have e_ := (Kd.R_reads' HO_0.out).1; omega) | simpa using h_) (seg := [.int .i64 (wrap64 (x1_1 + 1))]) (j := 1) hcl12 hcc12 (show 2 ≤ 4 from by decide) (x' := (⟨(⟨(rd_T31 y299 x5_1).f0.f0, wrap64 (x1_1 + 1), (rd_T31 y299 x5_1).f0.f2⟩ : S29), (rd_T31 y299 x5_1).f1⟩ : S31)) (k31_mkM _ _ _ (⟨(⟨(rd_T31 y299 x5_1).f0.f0, wrap64 (x1_1 + 1), (rd_T31 y299 x5_1).f0.f2⟩ : S29), (rd_T31 y299 x5_1).f1⟩ : S31) ) (fun _ hk => hk); have hx12_1 := hcc12 1 _ rfl; (try simp only [show (k31).sz = 4 from rfl, Nat.mul_one, Nat.add_zero] at hx12_1); have hf12_1 := hfr12 1; (try simp only [show (k31).sz = 4 from rfl, Nat.mul_one, Nat.add_zero] at hf12_1); clear hcl12 hcc12 hfr12 hM12) | ((with_reducible refine gate_store (t := 3) (p := 27) rfl ?_); refine store_event (t := 3) (p := 27) (v := ?vo_w13) (w1 := (w11.setCell ⟨go5, (x5_1 : Int).toNat * 4 + 1, none⟩ (.int .i64 (wrap64 (x1_1 + 1))))) ?hg ?ho ?hn ?hr ?_; (case ho => rfl); (case hg => rfl); (case hn => rfl); (case hr => first | (go_simp; done) | (go_simp; rfl)); intro w13 hw; have hg : w11.grownBy w13 (some go5) := (by rw [hw]; exact HP12.2); have hp_ : Kd.R k31 31 w13 w0.heap.size (fun k_ => (P0_ k_ ∨ w.heap.size ≤ k_)) (.slice (some ⟨go5, 0, none⟩) x0_1.length co9) y300 := (by rw [hw, Ny300.out]; exact HP12.1); clear HP12; have n0_ := Aside0.mk (hp_); have n1_ := Aside0.mk ((by rw [hw]; exact below_set (HB.out) GB5.out : Below w0.heap.size w0 w13)); have n2_ := Aside0.mk (Kept.of_grown (S := (fun k_ => P0_ k_)) hg (by repeat (first | (with_reducible first | exact HK.out | apply Kept.alloc | apply Kept.drewN | apply Kept.drew) | exact HK.out)) (fun k_ e_ => (HO_0.out.1 k_ e_))); clear HO_0; clear HB; clear HK; have HO_0 := n0_; have HB := n1_; have HK := n2_; clear n0_ n1_ n2_; clear hg hw hp_; have p7 : 0 ≤ (x5_1 : Int) := of_decide_eq_true (by first | (with_reducible assumption) | assumption); have q7 : (x5_1 : Int) < ((x0_1.length : Int) : Int) := of_decide_eq_true (by first | (with_reducible assumption) | assumption); obtain ⟨ce7, hcl7, hM7, hcc7, hfr7⟩ := Kd.R_elem HO_0.out z31 (x5_1 : Int) p7 q7; obtain rfl := k31_openM hM7; have hx7_0 : w13.cell? ⟨go5, (x5_1 : Int).toNat * 4, none⟩ = some (.bool ((rd_T31 y300 x5_1).f0.f0)) := hcc7 0 _ rfl; have hx7_1 : w13.cell? ⟨go5, (x5_1 : Int).toNat * 4 + 1, none⟩ = some (.int .i64 ((rd_T31 y300 x5_1).f0.f1)) := hcc7 1 _ rfl; have hx7_2 : w13.cell? ⟨go5, (x5_1 : Int).toNat * 4 + 2, none⟩ = some (.int .i64 ((rd_T31 y300 x5_1).f0.f2)) := hcc7 2 _ rfl; have hx7_3 : w13.cell? ⟨go5, (x5_1 : Int).toNat * 4 + 3, none⟩ = some (.int .i64 ((rd_T31 y300 x5_1).f1)) := hcc7 3 _ rfl; have hf7_0 : w13.frozen? ⟨go5, (x5_1 : Int).toNat * 4, none⟩ = false := hfr7 0; have hf7_1 : w13.frozen? ⟨go5, (x5_1 : Int).toNat * 4 + 1, none⟩ = false := hfr7 1; have hf7_2 : w13.frozen? ⟨go5, (x5_1 : Int).toNat * 4 + 2, none⟩ = false := hfr7 2; have hf7_3 : w13.frozen? ⟨go5, (x5_1 : Int).toNat * 4 + 3, none⟩ = false := hfr7 3; clear hcl7 hcc7 hfr7 hM7; replace p7 := eq_true p7; replace q7 := eq_true q7; have HX14 := Aside0.mk (show Kd.R k31 31 w13 w0.heap.size (fun k_ => (P0_ k_ ∨ w.heap.size ≤ k_)) (.slice (some ⟨go5, 0, none⟩) x0_1.length co9) y300 from (by (with_reducible repeat (first | apply Kd.R_alloc | apply Kd.R_drewN | apply Kd.R_drew)); exact HO_0.out)); obtain ⟨ce14, hcl14, hM14, hcc14, hfr14⟩ := Kd.R_elem HX14.out z31 (x5_1 : Int) (of_decide_eq_true (by first | (with_reducible assumption) | assumption)) (by have h_ : (x5_1 : Int) < ((x0_1.length : Int) : Int) := of_decide_eq_true (by first | (with_reducible assumption) | assumption); first | exact h_ | (have e_ := (Kd.R_reads' HO_0.out).1; omega) | simpa using h_); obtain rfl := k31_openM hM14; have HP14 := Kd.R_seg HX14.out (x5_1 : Int) (of_decide_eq_true (by first | (with_reducible assumption) | assumption)) (by have h_ : (x5_1 : Int) < ((x0_1.length : Int) : Int) := of_decide_eq_true (by first | (with_reducible assumption) | assumption); first | exact h_ | (have e_ := (Kd.R_reads' HO_0.out).1; omega) | simpa using h_) (seg := [.int .i64 (wrap64 ((wrap64 (x1_1 + 1)) + 1))]) (j := 2) hcl14 hcc14 (show 3 ≤ 4 from by decide) (x' := (⟨(⟨(rd_T31 y300 x5_1).f0.f0, (rd_T31 y300 x5_1).f0.f1, wrap64 ((wrap64 (x1_1 + 1)) + 1)⟩ : S29), (rd_T31 y300 x5_1).f1⟩ : S31)) (k31_mkM _ _ _ (⟨(⟨(rd_T31 y300 x5_1).f0.f0, (rd_T31 y300 x5_1).f0.f1, wrap64 ((wrap64 (x1_1 + 1)) + 1)⟩ : S29), (rd_T31 y300 x5_1).f1⟩ : S31) ) (fun _ hk => hk); have hx14_2 := hcc14 2 _ rfl; (try simp only [show (k31).sz = 4 from rfl, Nat.mul_one, Nat.add_zero] at hx14_2); have hf14_2 := hfr14 2; (try simp only [show (k31).sz = 4 from rfl, Nat.mul_one, Nat.add_zero] at hf14_2); clear hcl14 hcc14 hfr14 hM14) | ((with_reducible refine gate_store (t := 3) (p := 35) rfl ?_); refine store_event (t := 3) (p := 35) (v := ?vo_w15) (w1 := (w13.setCell ⟨go5, (x5_1 : Int).toNat * 4 + 2, none⟩ (.int .i64 (wrap64 ((wrap64 (x1_1 + 1)) + 1))))) ?hg ?ho ?hn ?hr ?_; (case ho => rfl); (case hg => rfl); (case hn => rfl); (case hr => first | (go_simp; done) | (go_simp; rfl)); intro w15 hw; have hg : w13.grownBy w15 (some go5) := (by rw [hw]; exact HP14.2); have hp_ : Kd.R k31 31 w15 w0.heap.size (fun k_ => (P0_ k_ ∨ w.heap.size ≤ k_)) (.slice (some ⟨go5, 0, none⟩) x0_1.length co9) y301 := (by rw [hw, Ny301.out]; exact HP14.1); clear HP14; have n0_ := Aside0.mk (hp_); have n1_ := Aside0.mk ((by rw [hw]; exact below_set (HB.out) GB5.out : Below w0.heap.size w0 w15)); have n2_ := Aside0.mk (Kept.of_grown (S := (fun k_ => P0_ k_)) hg (by repeat (first | (with_reducible first | exact HK.out | apply Kept.alloc | apply Kept.drewN | apply Kept.drew) | exact HK.out)) (fun k_ e_ => (HO_0.out.1 k_ e_))); clear HO_0; clear HB; clear HK; have HO_0 := n0_; have HB := n1_; have HK := n2_; clear n0_ n1_ n2_; clear hg hw hp_; have p8 : 0 ≤ (x5_1 : Int) := of_decide_eq_true (by first | (with_reducible assumption) | assumption); have q8 : (x5_1 : Int) < ((x0_1.length : Int) : Int) := of_decide_eq_true (by first | (with_reducible assumption) | assumption); obtain ⟨ce8, hcl8, hM8, hcc8, hfr8⟩ := Kd.R_elem HO_0.out z31 (x5_1 : Int) p8 q8; obtain rfl := k31_openM hM8; have hx8_0 : w15.cell? ⟨go5, (x5_1 : Int).toNat * 4, none⟩ = some (.bool ((rd_T31 y301 x5_1).f0.f0)) := hcc8 0 _ rfl; have hx8_1 : w15.cell? ⟨go5, (x5_1 : Int).toNat * 4 + 1, none⟩ = some (.int .i64 ((rd_T31 y301 x5_1).f0.f1)) := hcc8 1 _ rfl; have hx8_2 : w15.cell? ⟨go5, (x5_1 : Int).toNat * 4 + 2, none⟩ = some (.int .i64 ((rd_T31 y301 x5_1).f0.f2)) := hcc8 2 _ rfl; have hx8_3 : w15.cell? ⟨go5, (x5_1 : Int).toNat * 4 + 3, none⟩ = some (.int .i64 ((rd_T31 y301 x5_1).f1)) := hcc8 3 _ rfl; have hf8_0 : w15.frozen? ⟨go5, (x5_1 : Int).toNat * 4, none⟩ = false := hfr8 0; have hf8_1 : w15.frozen? ⟨go5, (x5_1 : Int).toNat * 4 + 1, none⟩ = false := hfr8 1; have hf8_2 : w15.frozen? ⟨go5, (x5_1 : Int).toNat * 4 + 2, none⟩ = false := hfr8 2; have hf8_3 : w15.frozen? ⟨go5, (x5_1 : Int).toNat * 4 + 3, none⟩ = false := hfr8 3; clear hcl8 hcc8 hfr8 hM8; replace p8 := eq_true p8; replace q8 := eq_true q8; have HX16 := Aside0.mk (show Kd.R k31 31 w15 w0.heap.size (fun k_ => (P0_ k_ ∨ w.heap.size ≤ k_)) (.slice (some ⟨go5, 0, none⟩) x0_1.length co9) y301 from (by (with_reducible repeat (first | apply Kd.R_alloc | apply Kd.R_drewN | apply Kd.R_drew)); exact HO_0.out)); obtain ⟨ce16, hcl16, hM16, hcc16, hfr16⟩ := Kd.R_elem HX16.out z31 (x5_1 : Int) (of_decide_eq_true (by first | (with_reducible assumption) | assumption)) (by have h_ : (x5_1 : Int) < ((x0_1.length : Int) : Int) := of_decide_eq_true (by first | (with_reducible assumption) | assumption); first | exact h_ | (have e_ := (Kd.R_reads' HO_0.out).1; omega) | simpa using h_); obtain rfl := k31_openM hM16; have HP16 := Kd.R_seg HX16.out (x5_1 : Int) (of_decide_eq_true (by first | (with_reducible assumption) | assumption)) (by have h_ : (x5_1 : Int) < ((x0_1.length : Int) : Int) := of_decide_eq_true (by first | (with_reducible assumption) | assumption); first | exact h_ | (have e_ := (Kd.R_reads' HO_0.out).1; omega) | simpa using h_) (seg := [.int .i64 (wrap64 ((wrap64 ((wrap64 (x1_1 + 1)) + 1)) + 1))]) (j := 3) hcl16 hcc16 (show 4 ≤ 4 from by decide) (x' := (⟨(⟨(rd_T31 y301 x5_1).f0.f0, (rd_T31 y301 x5_1).f0.f1, (rd_T31 y301 x5_1).f0.f2⟩ : S29), wrap64 ((wrap64 ((wrap64 (x1_1 + 1)) + 1)) + 1)⟩ : S31)) (k31_mkM _ _ _ (⟨(⟨(rd_T31 y301 x5_1).f0.f0, (rd_T31 y301 x5_1).f0.f1, (rd_T31 y301 x5_1).f0.f2⟩ : S29), wrap64 ((wrap64 ((wrap64 (x1_1 + 1)) + 1)) + 1)⟩ : S31) ) (fun _ hk => hk); have hx16_3 := hcc16 3 _ rfl; (try simp only [show (k31).sz = 4 from rfl, Nat.mul_one, Nat.add_zero] at hx16_3); have hf16_3 := hfr16 3; (try simp only [show (k31).sz = 4 from rfl, Nat.mul_one, Nat.add_zero] at hf16_3); clear hcl16 hcc16 hfr16 hM16) | ((with_reducible refine gate_store (t := 3) (p := 42) rfl ?_); refine store_event (t := 3) (p := 42) (v := ?vo_w17) (w1 := (w15.setCell ⟨go5, (x5_1 : Int).toNat * 4 + 3, none⟩ (.int .i64 (wrap64 ((wrap64 ((wrap64 (x1_1 + 1)) + 1)) + 1))))) ?hg ?ho ?hn ?hr ?_; (case ho => rfl); (case hg => rfl); (case hn => rfl); (case hr => first | (go_simp; done) | (go_simp; rfl)); intro w17 hw; have hg : w15.grownBy w17 (some go5) := (by rw [hw]; exact HP16.2); have hp_ : Kd.R k31 31 w17 w0.heap.size (fun k_ => (P0_ k_ ∨ w.heap.size ≤ k_)) (.slice (some ⟨go5, 0, none⟩) x0_1.length co9) y302 := (by rw [hw, Ny302.out]; exact HP16.1); clear HP16; have n0_ := Aside0.mk (hp_); have n1_ := Aside0.mk ((by rw [hw]; exact below_set (HB.out) GB5.out : Below w0.heap.size w0 w17)); have n2_ := Aside0.mk (Kept.of_grown (S := (fun k_ => P0_ k_)) hg (by repeat (first | (with_reducible first | exact HK.out | apply Kept.alloc | apply Kept.drewN | apply Kept.drew) | exact HK.out)) (fun k_ e_ => (HO_0.out.1 k_ e_))); clear HO_0; clear HB; clear HK; have HO_0 := n0_; have HB := n1_; have HK := n2_; clear n0_ n1_ n2_; clear hg hw hp_))
     go_roundg k1
     case measure => have := HK1.out; omega
     case rel => exact ⟨(y302), (wrap64 ((wrap64 ((wrap64 ((wrap64 (x1_1 + 1)) + 1)) + 1)) + 1)), (wrap64 (x5_1 + 1)), (by first | rfl | (simp; done) | (simp [*]; done)), (by first | rfl | (simp; done) | (simp [*]; done)), H', ⟨by have := HK1.out; omega⟩, ⟨by (with_reducible repeat (first | apply Kd.R_alloc | apply Kd.R_drewN | apply Kd.R_drew)); exact HO_0.out⟩, ⟨by repeat (first | (with_reducible first | exact HK.out | apply Kept.alloc | apply Kept.drewN | apply Kept.drew) | exact HK.out)⟩, ⟨by repeat (first | (with_reducible first | exact HB.out | apply below_alloc | apply pw_below_drewN | apply below_drew1) | exact HB.out)⟩⟩
    ·rw [if_neg c4] at H
     exact absurd H (by simp)
   ·rw [if_neg c3] at H
    have c3b0 : decide (x5_1 < (x0_1.length : Int)) = false := decide_eq_false c3
    clear c3
    simp only [Option.some.injEq, Prod.mk.injEq] at H
    obtain ⟨rfl, rfl⟩ := H
    obtain ⟨Ao18, co18, eo18⟩ := Kd.R_slice HO_0.out
    subst eo18
    go_wp2
    go_ret
    exact ⟨by first | rfl | (simp [errW_none, errW_some] <;> rfl) | (simp [*, errW_none, errW_some] <;> rfl), by (with_reducible repeat (first | apply Kd.R_alloc | apply Kd.R_drewN | apply Kd.R_drew)); exact HO_0.out, by repeat (first | (with_reducible first | exact HB.out | apply below_alloc | apply pw_below_drewN | apply below_drew1) | exact HB.out), by repeat (first | (with_reducible first | exact HK.out | apply Kept.alloc | apply Kept.drewN | apply Kept.drew) | exact HK.out)⟩

end Go.Proofs.Ythakdhdoeejkmaa.QFnExactWithout
