-- Written by a program of this session (wip/myprint.py); Lean checks it.
import Derived.Test.YthakdhdoeejkmaaQFnFirstAddrx0
import Derived.Test.YthakdhdoeejkmaaQFnFirstAddrx7
import Derived.Test.YthakdhdoeejkmaaQFnFirstAddrx8
import Derived.Test.YthakdhdoeejkmaaQFnFirstAddrx9
namespace Go.Proofs.Ythakdhdoeejkmaa.QFnFirstAddr
open Go.RowKit Go.Proofs.YthakdhdoeejkmaaW.PrintWords Go.Proofs.YthakdhdoeejkmaaW.PrintLast Go.Proofs.YthakdhdoeejkmaaW.PrintMore
open Act (put)
open List (setIfInBounds_toArray set_cons_zero set_cons_succ)
attribute [local go_sem] max2_int min2_int max_two min_two max_three min_three max_four min_four   -- for this text's walks alone
set_option linter.unusedVariables false
set_option linter.unusedSimpArgs false

attribute [local go_sem] isSome_setCell
/-! ### impl_NthOf: function 41 -/
def impl_NthOf.f (a0_0 : Bool) (a0_1 : Int) (a0_2 : Int) (a0_3 : Int) (a1 : Int) : Option (Bool × Int × Int × Bool) := (impl_PrefixOk.f a0_0 a0_1 a0_2 a0_3).bind fun t195 => (if t195 = true then ((impl_AddTo.f a0_0 a0_1 a0_2 a1).bind fun bt196 => (if bt196.2.2.2 = true then ((impl_HasAddr.f a0_0 a0_1 a0_2 a0_3 bt196.1 bt196.2.1 bt196.2.2.1).bind fun t201 => (if t201 = true then (some (bt196.1, bt196.2.1, bt196.2.2.1, true)) else (some (false, 0, 0, false)))) else (some (false, 0, 0, false)))) else (some (false, 0, 0, false)))
set_option maxHeartbeats 8000000 in
set_option maxRecDepth 100000 in
theorem impl_NthOf.calls (a0_0 : Bool) (a0_1 : Int) (a0_2 : Int) (a0_3 : Int) (a1 : Int) (r1 : Bool) (r2 : Int) (r3 : Int) (r4 : Bool) (w : World) (h : impl_NthOf.f a0_0 a0_1 a0_2 a0_3 a1 = some (r1, r2, r3, r4)) :
  Calls Try.prog 41 #[.agg #[.bool a0_0, .int .i64 a0_1, .int .i64 a0_2, .int .i64 a0_3], .int .i64 a1] w fun e w' => e = .returned (.tuple #[.agg #[.bool r1, .int .i64 r2, .int .i64 r3], .bool r4]) ∧ Below w.heap.size w w' := by
 have hu31 := Try.underlying31
 have hu29 := Try.underlying29
 have HB := Aside0.mk (Below.refl w.heap.size w)
 have H : ((impl_PrefixOk.f a0_0 a0_1 a0_2 a0_3).bind fun t195 => (if t195 = true then ((impl_AddTo.f a0_0 a0_1 a0_2 a1).bind fun bt196 => (if bt196.2.2.2 = true then ((impl_HasAddr.f a0_0 a0_1 a0_2 a0_3 bt196.1 bt196.2.1 bt196.2.2.1).bind fun t201 => (if t201 = true then (some (bt196.1, bt196.2.1, bt196.2.2.1, true)) else (some (false, 0, 0, false)))) else (some (false, 0, 0, false)))) else (some (false, 0, 0, false)))) = some (r1, r2, r3, r4) := h
 clear h
 replace H := Option.bind_eq_some_iff.mp H
 obtain ⟨t195, A30, H⟩ := H
 replace H : (if t195 = true then ((impl_AddTo.f a0_0 a0_1 a0_2 a1).bind fun bt196 => (if bt196.2.2.2 = true then ((impl_HasAddr.f a0_0 a0_1 a0_2 a0_3 bt196.1 bt196.2.1 bt196.2.2.1).bind fun t201 => (if t201 = true then (some (bt196.1, bt196.2.1, bt196.2.2.1, true)) else (some (false, 0, 0, false)))) else (some (false, 0, 0, false)))) else (some (false, 0, 0, false))) = some (r1, r2, r3, r4) := H
 have A3 := Aside0.mk A30
 clear A30
 by_cases c4 : t195 = true
 ·subst c4
  have H1 : ((impl_AddTo.f a0_0 a0_1 a0_2 a1).bind fun bt196 => (if bt196.2.2.2 = true then ((impl_HasAddr.f a0_0 a0_1 a0_2 a0_3 bt196.1 bt196.2.1 bt196.2.2.1).bind fun t201 => (if t201 = true then (some (bt196.1, bt196.2.1, bt196.2.2.1, true)) else (some (false, 0, 0, false)))) else (some (false, 0, 0, false)))) = some (r1, r2, r3, r4) := by rw [if_pos rfl] at H; exact H
  clear H
  have H := H1
  clear H1
  replace H := Option.bind_eq_some_iff.mp H
  obtain ⟨⟨t196, t197, t198, t199⟩, A50, H⟩ := H
  replace H : (if t199 = true then ((impl_HasAddr.f a0_0 a0_1 a0_2 a0_3 t196 t197 t198).bind fun t201 => (if t201 = true then (some (t196, t197, t198, true)) else (some (false, 0, 0, false)))) else (some (false, 0, 0, false))) = some (r1, r2, r3, r4) := H
  have A5 := Aside0.mk A50
  clear A50
  by_cases c6 : t199 = true
  ·subst c6
   have H1 : ((impl_HasAddr.f a0_0 a0_1 a0_2 a0_3 t196 t197 t198).bind fun t201 => (if t201 = true then (some (t196, t197, t198, true)) else (some (false, 0, 0, false)))) = some (r1, r2, r3, r4) := by rw [if_pos rfl] at H; exact H
   clear H
   have H := H1
   clear H1
   replace H := Option.bind_eq_some_iff.mp H
   obtain ⟨t201, A70, H⟩ := H
   replace H : (if t201 = true then (some (t196, t197, t198, true)) else (some (false, 0, 0, false))) = some (r1, r2, r3, r4) := H
   have A7 := Aside0.mk A70
   clear A70
   by_cases c8 : t201 = true
   ·subst c8
    have H1 : (some (t196, t197, t198, true)) = some (r1, r2, r3, r4) := by rw [if_pos rfl] at H; exact H
    clear H
    have H := H1
    clear H1
    simp only [Option.some.injEq, Prod.mk.injEq] at H
    obtain ⟨rfl, rfl, rfl, rfl⟩ := H
    go_enter Try.func41, Try.ntmps41
    go_wp2_with (first | ((with_reducible refine gate_dst (N := 2) rfl ?_); refine box_event ?hg (N := 2) ?hd (cs := #[.bool a0_0, .int .i64 a0_1, .int .i64 a0_2, .int .i64 a0_3]) (t := 31) ?hr ?_; (case hd => rfl); (case hg => rfl); (case hr => first | (go_simp; done) | (go_simp; rfl)); intro gb193 hg w9 hbox hb; have n0_ := Aside0.mk (below_step (hb_ HB.out) hb); have n1_ := Aside0.mk (hbox); have n2_ := bg_ hg (below_size (hb_ HB.out)); have n3_ := bg_ hg (below_size (hb_ HB.out)); clear HB; have HB := n0_; have BK193 := n1_; have GW193 := n2_; have GE193 := n3_; clear n0_ n1_ n2_ n3_; clear hb hbox hg) | ((with_reducible refine gate_dst (N := 4) rfl ?_); refine box_event ?hg (N := 4) ?hd (cs := #[.bool false, .int .i64 0, .int .i64 0]) (t := 29) ?hr ?_; (case hd => rfl); (case hg => rfl); (case hr => first | (go_simp; done) | (go_simp; rfl)); intro gb194 hg w10 hbox hb; have n0_ := Aside0.mk (blk_below (bk_ BK193.out) hb); have n1_ := Aside0.mk (below_step (hc_ HB.out GE193.out) hb); have n2_ := Aside0.mk (hbox); have n3_ := bg_ hg (below_size (hc_ HB.out GE193.out)); have n4_ := bg_ hg (below_size (hc_ HB.out GE193.out)); have n5_ := bn_ hg (blk_lt (bk_ BK193.out)); have n6_ := bm_ hg (blk_lt (bk_ BK193.out)); clear BK193; clear HB; have BK193 := n0_; have HB := n1_; have BK194 := n2_; have GW194 := n3_; have GE194 := n4_; have NB193_194 := n5_; have NB194_193 := n6_; clear n0_ n1_ n2_ n3_ n4_ n5_ n6_; clear hb hbox hg; have hnb11 := NB193_194.out; have hnc11 := NB194_193.out; obtain ⟨hcz12_0, hcz12_1, hcz12_2, hcz12_3, hfz12_0, hfz12_1, hfz12_2, hfz12_3⟩ := bc4_ BK193.out) | ((with_reducible refine gate_callee (f := 38) rfl ?_); refine goesL_ (some 9) rfl rfl Try.func38 (by kernel_rfl) rfl #[.agg #[.bool a0_0, .int .i64 a0_1, .int .i64 a0_2, .int .i64 a0_3]] rfl al_ ?_; (with_reducible refine (impl_PrefixOk.calls a0_0 a0_1 a0_2 a0_3 true _ A3.out).mono ?_); rintro e w13 ⟨rfl, hb⟩; refine ⟨_, rfl, ?_⟩; have n0_ := Aside0.mk (blk_below (bk_ BK193.out) hb); have n1_ := Aside0.mk (blk_below (bk_ BK194.out) hb); have n2_ := Aside0.mk (below_step (hd_ HB.out GE193.out GE194.out) hb); clear BK193; clear BK194; clear HB; have BK193 := n0_; have BK194 := n1_; have HB := n2_; clear n0_ n1_ n2_; (try clear hb); (try clear hb2); (try clear hk); (try clear hi); obtain ⟨hcz14_0, hcz14_1, hcz14_2, hcz14_3, hfz14_0, hfz14_1, hfz14_2, hfz14_3⟩ := bc4_ BK193.out) | ((with_reducible refine gate_callee (f := 43) rfl ?_); refine goesL_ (some 16) rfl rfl Try.func43 (by kernel_rfl) rfl #[.agg #[.bool a0_0, .int .i64 a0_1, .int .i64 a0_2], .int .i64 a1] rfl al_ ?_; (with_reducible refine (impl_AddTo.calls a0_0 a0_1 a0_2 a1 t196 t197 t198 true _ A5.out).mono ?_); rintro e w15 ⟨rfl, hb⟩; refine ⟨_, rfl, ?_⟩; have n0_ := Aside0.mk (blk_below (bk_ BK193.out) hb); have n1_ := Aside0.mk (blk_below (bk_ BK194.out) hb); have n2_ := Aside0.mk (below_step (hd_ HB.out GE193.out GE194.out) hb); clear BK193; clear BK194; clear HB; have BK193 := n0_; have BK194 := n1_; have HB := n2_; clear n0_ n1_ n2_; (try clear hb); (try clear hb2); (try clear hk); (try clear hi)) | ((with_reducible refine gate_dst (N := 6) rfl ?_); refine box_event ?hg (N := 6) ?hd (cs := #[.bool false, .int .i64 0, .int .i64 0]) (t := 29) ?hr ?_; (case hd => rfl); (case hg => rfl); (case hr => first | (go_simp; done) | (go_simp; rfl)); intro gb200 hg w16 hbox hb; have n0_ := Aside0.mk (blk_below (bk_ BK193.out) hb); have n1_ := Aside0.mk (blk_below (bk_ BK194.out) hb); have n2_ := Aside0.mk (below_step (hd_ HB.out GE193.out GE194.out) hb); have n3_ := Aside0.mk (hbox); have n4_ := bg_ hg (below_size (hd_ HB.out GE193.out GE194.out)); have n5_ := bg_ hg (below_size (hd_ HB.out GE193.out GE194.out)); have n6_ := bn_ hg (blk_lt (bk_ BK193.out)); have n7_ := bm_ hg (blk_lt (bk_ BK193.out)); have n8_ := bn_ hg (blk_lt (bk_ BK194.out)); have n9_ := bm_ hg (blk_lt (bk_ BK194.out)); clear BK193; clear BK194; clear HB; have BK193 := n0_; have BK194 := n1_; have HB := n2_; have BK200 := n3_; have GW200 := n4_; have GE200 := n5_; have NB193_200 := n6_; have NB200_193 := n7_; have NB194_200 := n8_; have NB200_194 := n9_; clear n0_ n1_ n2_ n3_ n4_ n5_ n6_ n7_ n8_ n9_; clear hb hbox hg; have hnb17 := NB200_193.out; have hnc17 := NB193_200.out; have hnb18 := NB200_194.out; have hnc18 := NB194_200.out; obtain ⟨hcz19_0, hcz19_1, hcz19_2, hfz19_0, hfz19_1, hfz19_2⟩ := bc3_ BK200.out; obtain ⟨hcz20_0, hcz20_1, hcz20_2, hcz20_3, hfz20_0, hfz20_1, hfz20_2, hfz20_3⟩ := bc4_ BK193.out) | (go_at_call 100; (with_reducible refine (impl_HasAddr.calls a0_0 a0_1 a0_2 a0_3 t196 t197 t198 true _ A7.out).mono ?_); rintro e w21 ⟨rfl, hb⟩; have n0_ := Aside0.mk (blk_below (g := gb193) (o := .cells #[.bool a0_0, .int .i64 a0_1, .int .i64 a0_2, .int .i64 a0_3] 31 (0, 0)) (by refine bk_ ?_; refine blk_far ?_ NB193_200.out _; refine bk_ ?_; refine blk_far ?_ NB193_200.out _; refine bk_ ?_; refine blk_far ?_ NB193_200.out _; refine bk_ ?_; exact BK193.out) hb); have n1_ := Aside0.mk (blk_below (g := gb194) (o := .cells #[.bool false, .int .i64 0, .int .i64 0] 29 (0, 0)) (by refine bk_ ?_; refine blk_far ?_ NB194_200.out _; refine bk_ ?_; refine blk_far ?_ NB194_200.out _; refine bk_ ?_; refine blk_far ?_ NB194_200.out _; refine bk_ ?_; exact BK194.out) hb); have n2_ := Aside0.mk (blk_below (g := gb200) (o := .cells #[.bool t196, .int .i64 t197, .int .i64 t198] 29 (0, 0)) (by refine bk_ ?_; refine blk_put (cs := #[.bool t196, .int .i64 t197, .int .i64 0]) ?_ 2 _ rfl; refine bk_ ?_; refine blk_put (cs := #[.bool t196, .int .i64 0, .int .i64 0]) ?_ 1 _ rfl; refine bk_ ?_; refine blk_put (cs := #[.bool false, .int .i64 0, .int .i64 0]) ?_ 0 _ rfl; refine bk_ ?_; exact BK200.out) hb); have n3_ := Aside0.mk (below_step (by repeat (first | (with_reducible first | exact HB.out | apply below_alloc | apply pw_below_drewN | apply below_drew1 | refine below_set ?_ GE193.out | refine below_set ?_ GE194.out | refine below_set ?_ GE200.out) | exact HB.out)) hb); clear BK193; clear BK194; clear BK200; clear HB; have BK193 := n0_; have BK194 := n1_; have BK200 := n2_; have HB := n3_; clear n0_ n1_ n2_ n3_; (try clear hb); (try clear hb2); (try clear hk); (try clear hi); obtain ⟨hcz22_0, hcz22_1, hcz22_2, hfz22_0, hfz22_1, hfz22_2⟩ := bc3_ BK200.out; obtain ⟨hcz23_0, hcz23_1, hcz23_2, hfz23_0, hfz23_1, hfz23_2⟩ := bc3_ BK194.out))
    refine bodyPost_ret (results_ct rfl _ _ gb194 29 #[.bool t196, .int .i64 t197, .int .i64 t198] (0, 0) _ rfl (by refine bk_ ?_; refine blk_put (cs := #[.bool t196, .int .i64 t197, .int .i64 0]) ?_ 2 _ rfl; refine bk_ ?_; refine blk_put (cs := #[.bool t196, .int .i64 0, .int .i64 0]) ?_ 1 _ rfl; refine bk_ ?_; refine blk_put (cs := #[.bool false, .int .i64 0, .int .i64 0]) ?_ 0 _ rfl; refine bk_ ?_; exact BK194.out) Try.underlying29 rfl (by kernel_rfl)) rfl ?_
    exact ⟨pe_, by repeat (first | (with_reducible first | exact HB.out | apply below_alloc | apply pw_below_drewN | apply below_drew1 | refine below_set ?_ GE193.out | refine below_set ?_ GE194.out | refine below_set ?_ GE200.out) | exact HB.out)⟩
   ·replace c8 := Bool.eq_false_iff.mpr c8
    subst c8
    have H1 : (some (false, 0, 0, false)) = some (r1, r2, r3, r4) := by rw [if_neg (show ¬ (false = true) by decide)] at H; exact H
    clear H
    have H := H1
    clear H1
    simp only [Option.some.injEq, Prod.mk.injEq] at H
    obtain ⟨rfl, rfl, rfl, rfl⟩ := H
    go_enter Try.func41, Try.ntmps41
    go_wp2_with (first | ((with_reducible refine gate_dst (N := 2) rfl ?_); refine box_event ?hg (N := 2) ?hd (cs := #[.bool a0_0, .int .i64 a0_1, .int .i64 a0_2, .int .i64 a0_3]) (t := 31) ?hr ?_; (case hd => rfl); (case hg => rfl); (case hr => first | (go_simp; done) | (go_simp; rfl)); intro gb193 hg w24 hbox hb; have n0_ := Aside0.mk (below_step (hb_ HB.out) hb); have n1_ := Aside0.mk (hbox); have n2_ := bg_ hg (below_size (hb_ HB.out)); have n3_ := bg_ hg (below_size (hb_ HB.out)); clear HB; have HB := n0_; have BK193 := n1_; have GW193 := n2_; have GE193 := n3_; clear n0_ n1_ n2_ n3_; clear hb hbox hg) | ((with_reducible refine gate_dst (N := 4) rfl ?_); refine box_event ?hg (N := 4) ?hd (cs := #[.bool false, .int .i64 0, .int .i64 0]) (t := 29) ?hr ?_; (case hd => rfl); (case hg => rfl); (case hr => first | (go_simp; done) | (go_simp; rfl)); intro gb194 hg w25 hbox hb; have n0_ := Aside0.mk (blk_below (bk_ BK193.out) hb); have n1_ := Aside0.mk (below_step (hc_ HB.out GE193.out) hb); have n2_ := Aside0.mk (hbox); have n3_ := bg_ hg (below_size (hc_ HB.out GE193.out)); have n4_ := bg_ hg (below_size (hc_ HB.out GE193.out)); have n5_ := bn_ hg (blk_lt (bk_ BK193.out)); have n6_ := bm_ hg (blk_lt (bk_ BK193.out)); clear BK193; clear HB; have BK193 := n0_; have HB := n1_; have BK194 := n2_; have GW194 := n3_; have GE194 := n4_; have NB193_194 := n5_; have NB194_193 := n6_; clear n0_ n1_ n2_ n3_ n4_ n5_ n6_; clear hb hbox hg; have hnb26 := NB193_194.out; have hnc26 := NB194_193.out; obtain ⟨hcz27_0, hcz27_1, hcz27_2, hcz27_3, hfz27_0, hfz27_1, hfz27_2, hfz27_3⟩ := bc4_ BK193.out) | ((with_reducible refine gate_callee (f := 38) rfl ?_); refine goesL_ (some 9) rfl rfl Try.func38 (by kernel_rfl) rfl #[.agg #[.bool a0_0, .int .i64 a0_1, .int .i64 a0_2, .int .i64 a0_3]] rfl al_ ?_; (with_reducible refine (impl_PrefixOk.calls a0_0 a0_1 a0_2 a0_3 true _ A3.out).mono ?_); rintro e w28 ⟨rfl, hb⟩; refine ⟨_, rfl, ?_⟩; have n0_ := Aside0.mk (blk_below (bk_ BK193.out) hb); have n1_ := Aside0.mk (blk_below (bk_ BK194.out) hb); have n2_ := Aside0.mk (below_step (hd_ HB.out GE193.out GE194.out) hb); clear BK193; clear BK194; clear HB; have BK193 := n0_; have BK194 := n1_; have HB := n2_; clear n0_ n1_ n2_; (try clear hb); (try clear hb2); (try clear hk); (try clear hi); obtain ⟨hcz29_0, hcz29_1, hcz29_2, hcz29_3, hfz29_0, hfz29_1, hfz29_2, hfz29_3⟩ := bc4_ BK193.out) | ((with_reducible refine gate_callee (f := 43) rfl ?_); refine goesL_ (some 16) rfl rfl Try.func43 (by kernel_rfl) rfl #[.agg #[.bool a0_0, .int .i64 a0_1, .int .i64 a0_2], .int .i64 a1] rfl al_ ?_; (with_reducible refine (impl_AddTo.calls a0_0 a0_1 a0_2 a1 t196 t197 t198 true _ A5.out).mono ?_); rintro e w30 ⟨rfl, hb⟩; refine ⟨_, rfl, ?_⟩; have n0_ := Aside0.mk (blk_below (bk_ BK193.out) hb); have n1_ := Aside0.mk (blk_below (bk_ BK194.out) hb); have n2_ := Aside0.mk (below_step (hd_ HB.out GE193.out GE194.out) hb); clear BK193; clear BK194; clear HB; have BK193 := n0_; have BK194 := n1_; have HB := n2_; clear n0_ n1_ n2_; (try clear hb); (try clear hb2); (try clear hk); (try clear hi)) | ((with_reducible refine gate_dst (N := 6) rfl ?_); refine box_event ?hg (N := 6) ?hd (cs := #[.bool false, .int .i64 0, .int .i64 0]) (t := 29) ?hr ?_; (case hd => rfl); (case hg => rfl); (case hr => first | (go_simp; done) | (go_simp; rfl)); intro gb200 hg w31 hbox hb; have n0_ := Aside0.mk (blk_below (bk_ BK193.out) hb); have n1_ := Aside0.mk (blk_below (bk_ BK194.out) hb); have n2_ := Aside0.mk (below_step (hd_ HB.out GE193.out GE194.out) hb); have n3_ := Aside0.mk (hbox); have n4_ := bg_ hg (below_size (hd_ HB.out GE193.out GE194.out)); have n5_ := bg_ hg (below_size (hd_ HB.out GE193.out GE194.out)); have n6_ := bn_ hg (blk_lt (bk_ BK193.out)); have n7_ := bm_ hg (blk_lt (bk_ BK193.out)); have n8_ := bn_ hg (blk_lt (bk_ BK194.out)); have n9_ := bm_ hg (blk_lt (bk_ BK194.out)); clear BK193; clear BK194; clear HB; have BK193 := n0_; have BK194 := n1_; have HB := n2_; have BK200 := n3_; have GW200 := n4_; have GE200 := n5_; have NB193_200 := n6_; have NB200_193 := n7_; have NB194_200 := n8_; have NB200_194 := n9_; clear n0_ n1_ n2_ n3_ n4_ n5_ n6_ n7_ n8_ n9_; clear hb hbox hg; have hnb32 := NB200_193.out; have hnc32 := NB193_200.out; have hnb33 := NB200_194.out; have hnc33 := NB194_200.out; obtain ⟨hcz34_0, hcz34_1, hcz34_2, hfz34_0, hfz34_1, hfz34_2⟩ := bc3_ BK200.out; obtain ⟨hcz35_0, hcz35_1, hcz35_2, hcz35_3, hfz35_0, hfz35_1, hfz35_2, hfz35_3⟩ := bc4_ BK193.out) | (go_at_call 100; (with_reducible refine (impl_HasAddr.calls a0_0 a0_1 a0_2 a0_3 t196 t197 t198 false _ A7.out).mono ?_); rintro e w36 ⟨rfl, hb⟩; have n0_ := Aside0.mk (blk_below (g := gb193) (o := .cells #[.bool a0_0, .int .i64 a0_1, .int .i64 a0_2, .int .i64 a0_3] 31 (0, 0)) (by refine bk_ ?_; refine blk_far ?_ NB193_200.out _; refine bk_ ?_; refine blk_far ?_ NB193_200.out _; refine bk_ ?_; refine blk_far ?_ NB193_200.out _; refine bk_ ?_; exact BK193.out) hb); have n1_ := Aside0.mk (blk_below (g := gb194) (o := .cells #[.bool false, .int .i64 0, .int .i64 0] 29 (0, 0)) (by refine bk_ ?_; refine blk_far ?_ NB194_200.out _; refine bk_ ?_; refine blk_far ?_ NB194_200.out _; refine bk_ ?_; refine blk_far ?_ NB194_200.out _; refine bk_ ?_; exact BK194.out) hb); have n2_ := Aside0.mk (blk_below (g := gb200) (o := .cells #[.bool t196, .int .i64 t197, .int .i64 t198] 29 (0, 0)) (by refine bk_ ?_; refine blk_put (cs := #[.bool t196, .int .i64 t197, .int .i64 0]) ?_ 2 _ rfl; refine bk_ ?_; refine blk_put (cs := #[.bool t196, .int .i64 0, .int .i64 0]) ?_ 1 _ rfl; refine bk_ ?_; refine blk_put (cs := #[.bool false, .int .i64 0, .int .i64 0]) ?_ 0 _ rfl; refine bk_ ?_; exact BK200.out) hb); have n3_ := Aside0.mk (below_step (by repeat (first | (with_reducible first | exact HB.out | apply below_alloc | apply pw_below_drewN | apply below_drew1 | refine below_set ?_ GE193.out | refine below_set ?_ GE194.out | refine below_set ?_ GE200.out) | exact HB.out)) hb); clear BK193; clear BK194; clear BK200; clear HB; have BK193 := n0_; have BK194 := n1_; have BK200 := n2_; have HB := n3_; clear n0_ n1_ n2_ n3_; (try clear hb); (try clear hb2); (try clear hk); (try clear hi); obtain ⟨hcz37_0, hcz37_1, hcz37_2, hfz37_0, hfz37_1, hfz37_2⟩ := bc3_ BK194.out))
    refine bodyPost_ret (results_ct rfl _ _ gb194 29 #[.bool false, .int .i64 0, .int .i64 0] (0, 0) _ rfl (by refine bk_ ?_; refine blk_put (cs := #[.bool false, .int .i64 0, .int .i64 0]) ?_ 2 _ rfl; refine bk_ ?_; refine blk_put (cs := #[.bool false, .int .i64 0, .int .i64 0]) ?_ 1 _ rfl; refine bk_ ?_; refine blk_put (cs := #[.bool false, .int .i64 0, .int .i64 0]) ?_ 0 _ rfl; refine bk_ ?_; exact BK194.out) Try.underlying29 rfl (by kernel_rfl)) rfl ?_
    exact ⟨pe_, by repeat (first | (with_reducible first | exact HB.out | apply below_alloc | apply pw_below_drewN | apply below_drew1 | refine below_set ?_ GE193.out | refine below_set ?_ GE194.out | refine below_set ?_ GE200.out) | exact HB.out)⟩
  ·replace c6 := Bool.eq_false_iff.mpr c6
   subst c6
   have H1 : (some (false, 0, 0, false)) = some (r1, r2, r3, r4) := by rw [if_neg (show ¬ (false = true) by decide)] at H; exact H
   clear H
   have H := H1
   clear H1
   simp only [Option.some.injEq, Prod.mk.injEq] at H
   obtain ⟨rfl, rfl, rfl, rfl⟩ := H
   go_enter Try.func41, Try.ntmps41
   go_wp2_with (first | ((with_reducible refine gate_dst (N := 2) rfl ?_); refine box_event ?hg (N := 2) ?hd (cs := #[.bool a0_0, .int .i64 a0_1, .int .i64 a0_2, .int .i64 a0_3]) (t := 31) ?hr ?_; (case hd => rfl); (case hg => rfl); (case hr => first | (go_simp; done) | (go_simp; rfl)); intro gb193 hg w38 hbox hb; have n0_ := Aside0.mk (below_step (hb_ HB.out) hb); have n1_ := Aside0.mk (hbox); have n2_ := bg_ hg (below_size (hb_ HB.out)); have n3_ := bg_ hg (below_size (hb_ HB.out)); clear HB; have HB := n0_; have BK193 := n1_; have GW193 := n2_; have GE193 := n3_; clear n0_ n1_ n2_ n3_; clear hb hbox hg) | ((with_reducible refine gate_dst (N := 4) rfl ?_); refine box_event ?hg (N := 4) ?hd (cs := #[.bool false, .int .i64 0, .int .i64 0]) (t := 29) ?hr ?_; (case hd => rfl); (case hg => rfl); (case hr => first | (go_simp; done) | (go_simp; rfl)); intro gb194 hg w39 hbox hb; have n0_ := Aside0.mk (blk_below (bk_ BK193.out) hb); have n1_ := Aside0.mk (below_step (hc_ HB.out GE193.out) hb); have n2_ := Aside0.mk (hbox); have n3_ := bg_ hg (below_size (hc_ HB.out GE193.out)); have n4_ := bg_ hg (below_size (hc_ HB.out GE193.out)); have n5_ := bn_ hg (blk_lt (bk_ BK193.out)); have n6_ := bm_ hg (blk_lt (bk_ BK193.out)); clear BK193; clear HB; have BK193 := n0_; have HB := n1_; have BK194 := n2_; have GW194 := n3_; have GE194 := n4_; have NB193_194 := n5_; have NB194_193 := n6_; clear n0_ n1_ n2_ n3_ n4_ n5_ n6_; clear hb hbox hg; have hnb40 := NB193_194.out; have hnc40 := NB194_193.out; obtain ⟨hcz41_0, hcz41_1, hcz41_2, hcz41_3, hfz41_0, hfz41_1, hfz41_2, hfz41_3⟩ := bc4_ BK193.out) | ((with_reducible refine gate_callee (f := 38) rfl ?_); refine goesL_ (some 9) rfl rfl Try.func38 (by kernel_rfl) rfl #[.agg #[.bool a0_0, .int .i64 a0_1, .int .i64 a0_2, .int .i64 a0_3]] rfl al_ ?_; (with_reducible refine (impl_PrefixOk.calls a0_0 a0_1 a0_2 a0_3 true _ A3.out).mono ?_); rintro e w42 ⟨rfl, hb⟩; refine ⟨_, rfl, ?_⟩; have n0_ := Aside0.mk (blk_below (bk_ BK193.out) hb); have n1_ := Aside0.mk (blk_below (bk_ BK194.out) hb); have n2_ := Aside0.mk (below_step (hd_ HB.out GE193.out GE194.out) hb); clear BK193; clear BK194; clear HB; have BK193 := n0_; have BK194 := n1_; have HB := n2_; clear n0_ n1_ n2_; (try clear hb); (try clear hb2); (try clear hk); (try clear hi); obtain ⟨hcz43_0, hcz43_1, hcz43_2, hcz43_3, hfz43_0, hfz43_1, hfz43_2, hfz43_3⟩ := bc4_ BK193.out) | ((with_reducible refine gate_callee (f := 43) rfl ?_); refine goesL_ (some 16) rfl rfl Try.func43 (by kernel_rfl) rfl #[.agg #[.bool a0_0, .int .i64 a0_1, .int .i64 a0_2], .int .i64 a1] rfl al_ ?_; (with_reducible refine (impl_AddTo.calls a0_0 a0_1 a0_2 a1 t196 t197 t198 false _ A5.out).mono ?_); rintro e w44 ⟨rfl, hb⟩; refine ⟨_, rfl, ?_⟩; have n0_ := Aside0.mk (blk_below (bk_ BK193.out) hb); have n1_ := Aside0.mk (blk_below (bk_ BK194.out) hb); have n2_ := Aside0.mk (below_step (hd_ HB.out GE193.out GE194.out) hb); clear BK193; clear BK194; clear HB; have BK193 := n0_; have BK194 := n1_; have HB := n2_; clear n0_ n1_ n2_; (try clear hb); (try clear hb2); (try clear hk); (try clear hi)) | ((with_reducible refine gate_dst (N := 6) rfl ?_); refine box_event ?hg (N := 6) ?hd (cs := #[.bool false, .int .i64 0, .int .i64 0]) (t := 29) ?hr ?_; (case hd => rfl); (case hg => rfl); (case hr => first | (go_simp; done) | (go_simp; rfl)); intro gb200 hg w45 hbox hb; have n0_ := Aside0.mk (blk_below (bk_ BK193.out) hb); have n1_ := Aside0.mk (blk_below (bk_ BK194.out) hb); have n2_ := Aside0.mk (below_step (hd_ HB.out GE193.out GE194.out) hb); have n3_ := Aside0.mk (hbox); have n4_ := bg_ hg (below_size (hd_ HB.out GE193.out GE194.out)); have n5_ := bg_ hg (below_size (hd_ HB.out GE193.out GE194.out)); have n6_ := bn_ hg (blk_lt (bk_ BK193.out)); have n7_ := bm_ hg (blk_lt (bk_ BK193.out)); have n8_ := bn_ hg (blk_lt (bk_ BK194.out)); have n9_ := bm_ hg (blk_lt (bk_ BK194.out)); clear BK193; clear BK194; clear HB; have BK193 := n0_; have BK194 := n1_; have HB := n2_; have BK200 := n3_; have GW200 := n4_; have GE200 := n5_; have NB193_200 := n6_; have NB200_193 := n7_; have NB194_200 := n8_; have NB200_194 := n9_; clear n0_ n1_ n2_ n3_ n4_ n5_ n6_ n7_ n8_ n9_; clear hb hbox hg; have hnb46 := NB200_193.out; have hnc46 := NB193_200.out; have hnb47 := NB200_194.out; have hnc47 := NB194_200.out; obtain ⟨hcz48_0, hcz48_1, hcz48_2, hfz48_0, hfz48_1, hfz48_2⟩ := bc3_ BK200.out; obtain ⟨hcz49_0, hcz49_1, hcz49_2, hfz49_0, hfz49_1, hfz49_2⟩ := bc3_ BK194.out))
   refine bodyPost_ret (results_ct rfl _ _ gb194 29 #[.bool false, .int .i64 0, .int .i64 0] (0, 0) _ rfl (by refine bk_ ?_; refine blk_put (cs := #[.bool false, .int .i64 0, .int .i64 0]) ?_ 2 _ rfl; refine bk_ ?_; refine blk_put (cs := #[.bool false, .int .i64 0, .int .i64 0]) ?_ 1 _ rfl; refine bk_ ?_; refine blk_put (cs := #[.bool false, .int .i64 0, .int .i64 0]) ?_ 0 _ rfl; refine bk_ ?_; refine blk_far ?_ NB194_200.out _; refine bk_ ?_; refine blk_far ?_ NB194_200.out _; refine bk_ ?_; refine blk_far ?_ NB194_200.out _; refine bk_ ?_; exact BK194.out) Try.underlying29 rfl (by kernel_rfl)) rfl ?_
   exact ⟨pe_, by repeat (first | (with_reducible first | exact HB.out | apply below_alloc | apply pw_below_drewN | apply below_drew1 | refine below_set ?_ GE193.out | refine below_set ?_ GE194.out | refine below_set ?_ GE200.out) | exact HB.out)⟩
 ·replace c4 := Bool.eq_false_iff.mpr c4
  subst c4
  have H1 : (some (false, 0, 0, false)) = some (r1, r2, r3, r4) := by rw [if_neg (show ¬ (false = true) by decide)] at H; exact H
  clear H
  have H := H1
  clear H1
  simp only [Option.some.injEq, Prod.mk.injEq] at H
  obtain ⟨rfl, rfl, rfl, rfl⟩ := H
  go_enter Try.func41, Try.ntmps41
  go_wp2_with (first | ((with_reducible refine gate_dst (N := 2) rfl ?_); refine box_event ?hg (N := 2) ?hd (cs := #[.bool a0_0, .int .i64 a0_1, .int .i64 a0_2, .int .i64 a0_3]) (t := 31) ?hr ?_; (case hd => rfl); (case hg => rfl); (case hr => first | (go_simp; done) | (go_simp; rfl)); intro gb193 hg w50 hbox hb; have n0_ := Aside0.mk (below_step (hb_ HB.out) hb); have n1_ := Aside0.mk (hbox); have n2_ := bg_ hg (below_size (hb_ HB.out)); have n3_ := bg_ hg (below_size (hb_ HB.out)); clear HB; have HB := n0_; have BK193 := n1_; have GW193 := n2_; have GE193 := n3_; clear n0_ n1_ n2_ n3_; clear hb hbox hg) | ((with_reducible refine gate_dst (N := 4) rfl ?_); refine box_event ?hg (N := 4) ?hd (cs := #[.bool false, .int .i64 0, .int .i64 0]) (t := 29) ?hr ?_; (case hd => rfl); (case hg => rfl); (case hr => first | (go_simp; done) | (go_simp; rfl)); intro gb194 hg w51 hbox hb; have n0_ := Aside0.mk (blk_below (bk_ BK193.out) hb); have n1_ := Aside0.mk (below_step (hc_ HB.out GE193.out) hb); have n2_ := Aside0.mk (hbox); have n3_ := bg_ hg (below_size (hc_ HB.out GE193.out)); have n4_ := bg_ hg (below_size (hc_ HB.out GE193.out)); have n5_ := bn_ hg (blk_lt (bk_ BK193.out)); have n6_ := bm_ hg (blk_lt (bk_ BK193.out)); clear BK193; clear HB; have BK193 := n0_; have HB := n1_; have BK194 := n2_; have GW194 := n3_; have GE194 := n4_; have NB193_194 := n5_; have NB194_193 := n6_; clear n0_ n1_ n2_ n3_ n4_ n5_ n6_; clear hb hbox hg; have hnb52 := NB193_194.out; have hnc52 := NB194_193.out; obtain ⟨hcz53_0, hcz53_1, hcz53_2, hcz53_3, hfz53_0, hfz53_1, hfz53_2, hfz53_3⟩ := bc4_ BK193.out) | ((with_reducible refine gate_callee (f := 38) rfl ?_); refine goesL_ (some 9) rfl rfl Try.func38 (by kernel_rfl) rfl #[.agg #[.bool a0_0, .int .i64 a0_1, .int .i64 a0_2, .int .i64 a0_3]] rfl al_ ?_; (with_reducible refine (impl_PrefixOk.calls a0_0 a0_1 a0_2 a0_3 false _ A3.out).mono ?_); rintro e w54 ⟨rfl, hb⟩; refine ⟨_, rfl, ?_⟩; have n0_ := Aside0.mk (blk_below (bk_ BK193.out) hb); have n1_ := Aside0.mk (blk_below (bk_ BK194.out) hb); have n2_ := Aside0.mk (below_step (hd_ HB.out GE193.out GE194.out) hb); clear BK193; clear BK194; clear HB; have BK193 := n0_; have BK194 := n1_; have HB := n2_; clear n0_ n1_ n2_; (try clear hb); (try clear hb2); (try clear hk); (try clear hi); obtain ⟨hcz55_0, hcz55_1, hcz55_2, hfz55_0, hfz55_1, hfz55_2⟩ := bc3_ BK194.out))
  refine bodyPost_ret (results_ct rfl _ _ gb194 29 #[.bool false, .int .i64 0, .int .i64 0] (0, 0) _ rfl (by refine bk_ ?_; refine blk_put (cs := #[.bool false, .int .i64 0, .int .i64 0]) ?_ 2 _ rfl; refine bk_ ?_; refine blk_put (cs := #[.bool false, .int .i64 0, .int .i64 0]) ?_ 1 _ rfl; refine bk_ ?_; refine blk_put (cs := #[.bool false, .int .i64 0, .int .i64 0]) ?_ 0 _ rfl; refine bk_ ?_; exact BK194.out) Try.underlying29 rfl (by kernel_rfl)) rfl ?_
  exact ⟨pe_, hd_ HB.out GE193.out GE194.out⟩

/-! ### cmp_isNaN_uint64: function 176 -/
def cmp_isNaN_uint64.f (a0 : Int) : Option (Bool) := some (a0 != a0)
set_option maxHeartbeats 8000000 in
set_option maxRecDepth 100000 in
theorem cmp_isNaN_uint64.calls (a0 : Int) (r : Bool) (w : World) (h : cmp_isNaN_uint64.f a0 = some r) :
  Calls Try.prog 176 #[.int .u64 a0] w fun e w' => e = .returned (.bool r) ∧ Drawn0 w w' := by
 have H : (some (a0 != a0)) = some r := h
 clear h
 obtain rfl := Option.some.inj H
 go_enter Try.func176, Try.ntmps176
 go_wp2
 go_ret
 exact ⟨by first | rfl | (simp; done) | (simp [*]; done), by repeat (first | exact Drawn0.refl _ | apply Drawn0.step)⟩

/-! ### cmp_Compare_uint64: function 148 -/
def cmp_Compare_uint64.f (a0 : Int) (a1 : Int) : Option (Int) := (cmp_isNaN_uint64.f a0).bind fun t202 => ((cmp_isNaN_uint64.f a1).bind fun t203 => (if t202 = true then (if t203 = true then (some 0) else (some (-1))) else (if t203 = true then (some 1) else (if a0 < a1 then (some (-1)) else (if a0 > a1 then (some 1) else (some 0))))))
set_option maxHeartbeats 8000000 in
set_option maxRecDepth 100000 in
theorem cmp_Compare_uint64.calls (a0 : Int) (a1 : Int) (r : Int) (w : World) (h : cmp_Compare_uint64.f a0 a1 = some r) :
  Calls Try.prog 148 #[.int .u64 a0, .int .u64 a1] w fun e w' => e = .returned (.int .i64 r) ∧ Drawn0 w w' := by
 have H : ((cmp_isNaN_uint64.f a0).bind fun t202 => ((cmp_isNaN_uint64.f a1).bind fun t203 => (if t202 = true then (if t203 = true then (some 0) else (some (-1))) else (if t203 = true then (some 1) else (if a0 < a1 then (some (-1)) else (if a0 > a1 then (some 1) else (some 0))))))) = some r := h
 clear h
 replace H := Option.bind_eq_some_iff.mp H
 obtain ⟨t202, A30, H⟩ := H
 replace H : ((cmp_isNaN_uint64.f a1).bind fun t203 => (if t202 = true then (if t203 = true then (some 0) else (some (-1))) else (if t203 = true then (some 1) else (if a0 < a1 then (some (-1)) else (if a0 > a1 then (some 1) else (some 0)))))) = some r := H
 have A3 := Aside0.mk A30
 clear A30
 replace H := Option.bind_eq_some_iff.mp H
 obtain ⟨t203, A40, H⟩ := H
 replace H : (if t202 = true then (if t203 = true then (some 0) else (some (-1))) else (if t203 = true then (some 1) else (if a0 < a1 then (some (-1)) else (if a0 > a1 then (some 1) else (some 0))))) = some r := H
 have A4 := Aside0.mk A40
 clear A40
 by_cases c5 : t202 = true
 ·subst c5
  have H1 : (if t203 = true then (some 0) else (some (-1))) = some r := by rw [if_pos rfl] at H; exact H
  clear H
  have H := H1
  clear H1
  by_cases c6 : t203 = true
  ·subst c6
   have H1 : (some 0) = some r := by rw [if_pos rfl] at H; exact H
   clear H
   have H := H1
   clear H1
   obtain rfl := Option.some.inj H
   go_enter Try.func148, Try.ntmps148
   go_wp2_with (first | ((with_reducible refine gate_callee (f := 176) rfl ?_); refine goesL_ (some 8) rfl rfl Try.func176 (by kernel_rfl) rfl #[.int .u64 a0] rfl al_ ?_; (with_reducible refine (cmp_isNaN_uint64.calls a0 true _ A3.out).mono ?_); rintro e w' ⟨rfl, ⟨nd, rfl⟩⟩; refine ⟨_, rfl, ?_⟩) | ((with_reducible refine gate_callee (f := 176) rfl ?_); refine goesL_ (some 10) rfl rfl Try.func176 (by kernel_rfl) rfl #[.int .u64 a1] rfl al_ ?_; (with_reducible refine (cmp_isNaN_uint64.calls a1 true _ A4.out).mono ?_); rintro e w' ⟨rfl, ⟨nd, rfl⟩⟩; refine ⟨_, rfl, ?_⟩))
   go_ret
   exact ⟨by first | rfl | (simp; done) | (simp [*]; done), by repeat (first | exact Drawn0.refl _ | apply Drawn0.step)⟩
  ·replace c6 := Bool.eq_false_iff.mpr c6
   subst c6
   have H1 : (some (-1)) = some r := by rw [if_neg (show ¬ (false = true) by decide)] at H; exact H
   clear H
   have H := H1
   clear H1
   obtain rfl := Option.some.inj H
   go_enter Try.func148, Try.ntmps148
   go_wp2_with (first | ((with_reducible refine gate_callee (f := 176) rfl ?_); refine goesL_ (some 8) rfl rfl Try.func176 (by kernel_rfl) rfl #[.int .u64 a0] rfl al_ ?_; (with_reducible refine (cmp_isNaN_uint64.calls a0 true _ A3.out).mono ?_); rintro e w' ⟨rfl, ⟨nd, rfl⟩⟩; refine ⟨_, rfl, ?_⟩) | ((with_reducible refine gate_callee (f := 176) rfl ?_); refine goesL_ (some 10) rfl rfl Try.func176 (by kernel_rfl) rfl #[.int .u64 a1] rfl al_ ?_; (with_reducible refine (cmp_isNaN_uint64.calls a1 false _ A4.out).mono ?_); rintro e w' ⟨rfl, ⟨nd, rfl⟩⟩; refine ⟨_, rfl, ?_⟩))
   go_ret
   exact ⟨by first | rfl | (simp; done) | (simp [*]; done), by repeat (first | exact Drawn0.refl _ | apply Drawn0.step)⟩
 ·replace c5 := Bool.eq_false_iff.mpr c5
  subst c5
  have H1 : (if t203 = true then (some 1) else (if a0 < a1 then (some (-1)) else (if a0 > a1 then (some 1) else (some 0)))) = some r := by rw [if_neg (show ¬ (false = true) by decide)] at H; exact H
  clear H
  have H := H1
  clear H1
  by_cases c7 : t203 = true
  ·subst c7
   have H1 : (some 1) = some r := by rw [if_pos rfl] at H; exact H
   clear H
   have H := H1
   clear H1
   obtain rfl := Option.some.inj H
   go_enter Try.func148, Try.ntmps148
   go_wp2_with (first | ((with_reducible refine gate_callee (f := 176) rfl ?_); refine goesL_ (some 8) rfl rfl Try.func176 (by kernel_rfl) rfl #[.int .u64 a0] rfl al_ ?_; (with_reducible refine (cmp_isNaN_uint64.calls a0 false _ A3.out).mono ?_); rintro e w' ⟨rfl, ⟨nd, rfl⟩⟩; refine ⟨_, rfl, ?_⟩) | ((with_reducible refine gate_callee (f := 176) rfl ?_); refine goesL_ (some 10) rfl rfl Try.func176 (by kernel_rfl) rfl #[.int .u64 a1] rfl al_ ?_; (with_reducible refine (cmp_isNaN_uint64.calls a1 true _ A4.out).mono ?_); rintro e w' ⟨rfl, ⟨nd, rfl⟩⟩; refine ⟨_, rfl, ?_⟩))
   go_ret
   exact ⟨by first | rfl | (simp; done) | (simp [*]; done), by repeat (first | exact Drawn0.refl _ | apply Drawn0.step)⟩
  ·replace c7 := Bool.eq_false_iff.mpr c7
   subst c7
   have H1 : (if a0 < a1 then (some (-1)) else (if a0 > a1 then (some 1) else (some 0))) = some r := by rw [if_neg (show ¬ (false = true) by decide)] at H; exact H
   clear H
   have H := H1
   clear H1
   by_cases c8 : a0 < a1
   ·rw [if_pos c8] at H
    have c8b0 : decide (a0 < a1) = true := decide_eq_true c8
    clear c8
    obtain rfl := Option.some.inj H
    go_enter Try.func148, Try.ntmps148
    go_wp2_with (first | ((with_reducible refine gate_callee (f := 176) rfl ?_); refine goesL_ (some 8) rfl rfl Try.func176 (by kernel_rfl) rfl #[.int .u64 a0] rfl al_ ?_; (with_reducible refine (cmp_isNaN_uint64.calls a0 false _ A3.out).mono ?_); rintro e w' ⟨rfl, ⟨nd, rfl⟩⟩; refine ⟨_, rfl, ?_⟩) | ((with_reducible refine gate_callee (f := 176) rfl ?_); refine goesL_ (some 10) rfl rfl Try.func176 (by kernel_rfl) rfl #[.int .u64 a1] rfl al_ ?_; (with_reducible refine (cmp_isNaN_uint64.calls a1 false _ A4.out).mono ?_); rintro e w' ⟨rfl, ⟨nd, rfl⟩⟩; refine ⟨_, rfl, ?_⟩))
    go_ret
    exact ⟨by first | rfl | (simp; done) | (simp [*]; done), by repeat (first | exact Drawn0.refl _ | apply Drawn0.step)⟩
   ·rw [if_neg c8] at H
    have c8b0 : decide (a0 < a1) = false := decide_eq_false c8
    clear c8
    by_cases c9 : a0 > a1
    ·rw [if_pos c9] at H
     have c9b0 : decide (a1 < a0) = true := decide_eq_true c9
     clear c9
     obtain rfl := Option.some.inj H
     go_enter Try.func148, Try.ntmps148
     go_wp2_with (first | ((with_reducible refine gate_callee (f := 176) rfl ?_); refine goesL_ (some 8) rfl rfl Try.func176 (by kernel_rfl) rfl #[.int .u64 a0] rfl al_ ?_; (with_reducible refine (cmp_isNaN_uint64.calls a0 false _ A3.out).mono ?_); rintro e w' ⟨rfl, ⟨nd, rfl⟩⟩; refine ⟨_, rfl, ?_⟩) | ((with_reducible refine gate_callee (f := 176) rfl ?_); refine goesL_ (some 10) rfl rfl Try.func176 (by kernel_rfl) rfl #[.int .u64 a1] rfl al_ ?_; (with_reducible refine (cmp_isNaN_uint64.calls a1 false _ A4.out).mono ?_); rintro e w' ⟨rfl, ⟨nd, rfl⟩⟩; refine ⟨_, rfl, ?_⟩))
     go_ret
     exact ⟨by first | rfl | (simp; done) | (simp [*]; done), by repeat (first | exact Drawn0.refl _ | apply Drawn0.step)⟩
    ·rw [if_neg c9] at H
     have c9b0 : decide (a1 < a0) = false := decide_eq_false c9
     clear c9
     obtain rfl := Option.some.inj H
     go_enter Try.func148, Try.ntmps148
     go_wp2_with (first | ((with_reducible refine gate_callee (f := 176) rfl ?_); refine goesL_ (some 8) rfl rfl Try.func176 (by kernel_rfl) rfl #[.int .u64 a0] rfl al_ ?_; (with_reducible refine (cmp_isNaN_uint64.calls a0 false _ A3.out).mono ?_); rintro e w' ⟨rfl, ⟨nd, rfl⟩⟩; refine ⟨_, rfl, ?_⟩) | ((with_reducible refine gate_callee (f := 176) rfl ?_); refine goesL_ (some 10) rfl rfl Try.func176 (by kernel_rfl) rfl #[.int .u64 a1] rfl al_ ?_; (with_reducible refine (cmp_isNaN_uint64.calls a1 false _ A4.out).mono ?_); rintro e w' ⟨rfl, ⟨nd, rfl⟩⟩; refine ⟨_, rfl, ?_⟩))
     go_ret
     exact ⟨by first | rfl | (simp; done) | (simp [*]; done), by repeat (first | exact Drawn0.refl _ | apply Drawn0.step)⟩

/-! ### impl_CmpAddr: function 86 -/
mutual
def impl_CmpAddr.j1 : Nat → Bool → Int → Int → Bool → Int → Int → Option (Int)
 | 0, _, _, _, _, _, _ => none
 | k + 1, x205000, x205001, x205002, x206000, x206001, x206002 => (cmp_Compare_uint64.f (IntKind.u64.wrap (x205001)) (IntKind.u64.wrap (x206001))).bind fun t212 => (if t212 = 0 then ((cmp_Compare_uint64.f (IntKind.u64.wrap (x205002)) (IntKind.u64.wrap (x206002))).bind fun t213 => (some t213)) else (some t212))
def impl_CmpAddr.j0 : Nat → Bool → Bool → Int → Int → Bool → Int → Int → Option (Int)
 | 0, _, _, _, _, _, _, _ => none
 | k + 1, x10, x205000, x205001, x205002, x206000, x206001, x206002 => if x10 = true then (some (-1)) else (if x205000 = true then (if x206000 = true then (impl_CmpAddr.j1 k x205000 x205001 x205002 x206000 x206001 x206002) else (some 1)) else (impl_CmpAddr.j1 k x205000 x205001 x205002 x206000 x206001 x206002))
end
def impl_CmpAddr.f (k : Nat) (a0_0 : Bool) (a0_1 : Int) (a0_2 : Int) (a1_0 : Bool) (a1_1 : Int) (a1_2 : Int) : Option (Int) := (impl_right.f a0_0 a0_1 a0_2).bind fun bt206 => ((impl_right.f a1_0 a1_1 a1_2).bind fun bt209 => (if bt206.1 = true then (impl_CmpAddr.j0 k false bt206.1 bt206.2.1 bt206.2.2 bt209.1 bt209.2.1 bt209.2.2) else (impl_CmpAddr.j0 k bt209.1 bt206.1 bt206.2.1 bt206.2.2 bt209.1 bt209.2.1 bt209.2.2)))
theorem impl_CmpAddr.mono_l : ∀ k, (∀ y0 y1 y2 y3 y4 y5, LeO (impl_CmpAddr.j1 k y0 y1 y2 y3 y4 y5) (impl_CmpAddr.j1 (k + 1) y0 y1 y2 y3 y4 y5)) ∧ (∀ y0 y1 y2 y3 y4 y5 y6, LeO (impl_CmpAddr.j0 k y0 y1 y2 y3 y4 y5 y6) (impl_CmpAddr.j0 (k + 1) y0 y1 y2 y3 y4 y5 y6))
 | 0 => ⟨fun _ _ _ _ _ _ r h => by simp [impl_CmpAddr.j1] at h, fun _ _ _ _ _ _ _ r h => by simp [impl_CmpAddr.j0] at h⟩
 | k + 1 => by
  obtain ⟨ih0, ih1⟩ := impl_CmpAddr.mono_l k
  refine ⟨?_, ?_⟩
  ·intro y0 y1 y2 y3 y4 y5
   unfold impl_CmpAddr.j1
   repeat' first
   | (with_reducible exact ih0 _ _ _ _ _ _)
   | (with_reducible exact ih1 _ _ _ _ _ _ _)
   | (with_reducible exact LeO.refl _)
   | (with_reducible exact LeO.none _)
   | (with_reducible refine LeO.ite ?_ ?_)
   | (with_reducible refine LeO.bind ?_ (fun _ => ?_))
   | exact ih0 _ _ _ _ _ _
   | exact ih1 _ _ _ _ _ _ _
   | exact LeO.none _
   | refine LeO.ite ?_ ?_
   | refine LeO.bind ?_ (fun _ => ?_)
  ·intro y0 y1 y2 y3 y4 y5 y6
   unfold impl_CmpAddr.j0
   repeat' first
   | (with_reducible exact ih0 _ _ _ _ _ _)
   | (with_reducible exact ih1 _ _ _ _ _ _ _)
   | (with_reducible exact LeO.refl _)
   | (with_reducible exact LeO.none _)
   | (with_reducible refine LeO.ite ?_ ?_)
   | (with_reducible refine LeO.bind ?_ (fun _ => ?_))
   | exact ih0 _ _ _ _ _ _
   | exact ih1 _ _ _ _ _ _ _
   | exact LeO.none _
   | refine LeO.ite ?_ ?_
   | refine LeO.bind ?_ (fun _ => ?_)
theorem impl_CmpAddr.mono : ∀ a0 a1 a2 a3 a4 a5 k, LeO (impl_CmpAddr.f k a0 a1 a2 a3 a4 a5) (impl_CmpAddr.f (k + 1) a0 a1 a2 a3 a4 a5) := by
 intro a0 a1 a2 a3 a4 a5 k
 obtain ⟨ih0, ih1⟩ := impl_CmpAddr.mono_l k
 unfold impl_CmpAddr.f
 repeat' first
   | (with_reducible exact ih0 _ _ _ _ _ _)
   | (with_reducible exact ih1 _ _ _ _ _ _ _)
   | (with_reducible exact LeO.refl _)
   | (with_reducible exact LeO.none _)
   | (with_reducible refine LeO.ite ?_ ?_)
   | (with_reducible refine LeO.bind ?_ (fun _ => ?_))
   | exact ih0 _ _ _ _ _ _
   | exact ih1 _ _ _ _ _ _ _
   | exact LeO.none _
   | refine LeO.ite ?_ ?_
   | refine LeO.bind ?_ (fun _ => ?_)
set_option maxHeartbeats 8000000 in
set_option maxRecDepth 100000 in
theorem impl_CmpAddr.calls (k : Nat) (a0_0 : Bool) (a0_1 : Int) (a0_2 : Int) (a1_0 : Bool) (a1_1 : Int) (a1_2 : Int) (r : Int) (w : World) (h : impl_CmpAddr.f k a0_0 a0_1 a0_2 a1_0 a1_1 a1_2 = some r) :
  Calls Try.prog 86 #[.agg #[.bool a0_0, .int .i64 a0_1, .int .i64 a0_2], .agg #[.bool a1_0, .int .i64 a1_1, .int .i64 a1_2]] w fun e w' => e = .returned (.int .i64 r) ∧ Below w.heap.size w w' := by
 have hu29 := Try.underlying29
 have HB := Aside0.mk (Below.refl w.heap.size w)
 have H : ((impl_right.f a0_0 a0_1 a0_2).bind fun bt206 => ((impl_right.f a1_0 a1_1 a1_2).bind fun bt209 => (if bt206.1 = true then (impl_CmpAddr.j0 k false bt206.1 bt206.2.1 bt206.2.2 bt209.1 bt209.2.1 bt209.2.2) else (impl_CmpAddr.j0 k bt209.1 bt206.1 bt206.2.1 bt206.2.2 bt209.1 bt209.2.1 bt209.2.2)))) = some r := h
 clear h
 replace H := Option.bind_eq_some_iff.mp H
 obtain ⟨⟨t206, t207, t208⟩, A30, H⟩ := H
 replace H : ((impl_right.f a1_0 a1_1 a1_2).bind fun bt209 => (if t206 = true then (impl_CmpAddr.j0 k false t206 t207 t208 bt209.1 bt209.2.1 bt209.2.2) else (impl_CmpAddr.j0 k bt209.1 t206 t207 t208 bt209.1 bt209.2.1 bt209.2.2))) = some r := H
 have A3 := Aside0.mk A30
 clear A30
 replace H := Option.bind_eq_some_iff.mp H
 obtain ⟨⟨t209, t210, t211⟩, A40, H⟩ := H
 replace H : (if t206 = true then (impl_CmpAddr.j0 k false t206 t207 t208 t209 t210 t211) else (impl_CmpAddr.j0 k t209 t206 t207 t208 t209 t210 t211)) = some r := H
 have A4 := Aside0.mk A40
 clear A40
 have HC5 := Aside0.mk H
 clear H
 go_enter Try.func86, Try.ntmps86
 try go_wp2_with (first | ((with_reducible refine gate_dst (N := 2) rfl ?_); refine box_event ?hg (N := 2) ?hd (cs := #[.bool a0_0, .int .i64 a0_1, .int .i64 a0_2]) (t := 29) ?hr ?_; (case hd => rfl); (case hg => rfl); (case hr => first | (go_simp; done) | (go_simp; rfl)); intro gb204 hg w6 hbox hb; have n0_ := Aside0.mk (below_step (hb_ HB.out) hb); have n1_ := Aside0.mk (hbox); have n2_ := bg_ hg (below_size (hb_ HB.out)); have n3_ := bg_ hg (below_size (hb_ HB.out)); clear HB; have HB := n0_; have BK204 := n1_; have GW204 := n2_; have GE204 := n3_; clear n0_ n1_ n2_ n3_; clear hb hbox hg) | ((with_reducible refine gate_dst (N := 3) rfl ?_); refine box_event ?hg (N := 3) ?hd (cs := #[.bool a1_0, .int .i64 a1_1, .int .i64 a1_2]) (t := 29) ?hr ?_; (case hd => rfl); (case hg => rfl); (case hr => first | (go_simp; done) | (go_simp; rfl)); intro gb205 hg w7 hbox hb; have n0_ := Aside0.mk (blk_below (bk_ BK204.out) hb); have n1_ := Aside0.mk (below_step (hc_ HB.out GE204.out) hb); have n2_ := Aside0.mk (hbox); have n3_ := bg_ hg (below_size (hc_ HB.out GE204.out)); have n4_ := bg_ hg (below_size (hc_ HB.out GE204.out)); have n5_ := bn_ hg (blk_lt (bk_ BK204.out)); have n6_ := bm_ hg (blk_lt (bk_ BK204.out)); clear BK204; clear HB; have BK204 := n0_; have HB := n1_; have BK205 := n2_; have GW205 := n3_; have GE205 := n4_; have NB204_205 := n5_; have NB205_204 := n6_; clear n0_ n1_ n2_ n3_ n4_ n5_ n6_; clear hb hbox hg))
 have n0_ := Aside0.mk (blk_drew BK204.out)
 have n1_ := Aside0.mk (blk_drew BK205.out)
 have n2_ := Aside0.mk (below_drew1 HB.out)
 clear BK204
 clear BK205
 clear HB
 have BK204 := n0_
 have BK205 := n1_
 have HB := n2_
 clear n0_ n1_ n2_
 refine start_ (n := 6) (S := fun w' => w'.cell? ⟨gb204, 0, none⟩ = some (.bool a0_0) ∧ w'.cell? ⟨gb204, 1, none⟩ = some (.int .i64 a0_1) ∧ w'.cell? ⟨gb204, 2, none⟩ = some (.int .i64 a0_2) ∧ w'.cell? ⟨gb205, 0, none⟩ = some (.bool a1_0) ∧ w'.cell? ⟨gb205, 1, none⟩ = some (.int .i64 a1_1) ∧ w'.cell? ⟨gb205, 2, none⟩ = some (.int .i64 a1_2)) (ds := [4, 5]) #[false, false, false, false, false, false] (by kernel_rfl) rfl rfl ⟨(blk_cell BK204.out 0).trans rfl, (blk_cell BK204.out 1).trans rfl, (blk_cell BK204.out 2).trans rfl, (blk_cell BK205.out 0).trans rfl, (blk_cell BK205.out 1).trans rfl, (blk_cell BK205.out 2).trans rfl⟩ (fun hHeld => ?_)
 generalize w7.drew = w8 at BK204 BK205 HB hHeld ⊢
 refine take_ (i := 0) (N := some 6) (v := ?_) (a' := ?_) #[true, false, false, false, false, false] rfl rfl (by kernel_rfl) (fun _ _ _ h => h) (Or.inl ⟨by rfl, ?_⟩) hHeld ?_ ?_
 rotate_left
 ·rintro w' ⟨s0, s1, s2, s3, s4, s5⟩
  go_simp
  with_reducible rfl
 rotate_left
 ·simp only [put, setIfInBounds_toArray, set_cons_zero, set_cons_succ, i64_w, i32_w]
  rfl
 refine take_ (i := 2) (N := some 8) (v := ?_) (a' := ?_) #[true, false, true, false, false, false] rfl rfl (by kernel_rfl) (fun _ _ _ h => h) (Or.inl ⟨by rfl, ?_⟩) hHeld ?_ ?_
 rotate_left
 ·rintro w' ⟨s0, s1, s2, s3, s4, s5⟩
  go_simp
  with_reducible rfl
 rotate_left
 ·simp only [put, setIfInBounds_toArray, set_cons_zero, set_cons_succ, i64_w, i32_w]
  rfl
 refine one_ (i := 1) (N := some 7) #[true, true, true, false, false, false] rfl rfl (by kernel_rfl) (by decide) (fun K hK => ?_)
 refine goes_ Try.func101 (by kernel_rfl) rfl #[.agg #[.bool a0_0, .int .i64 a0_1, .int .i64 a0_2]] (by rfl) rfl rfl al_ ?_
 with_reducible refine (impl_right.calls a0_0 a0_1 a0_2 t206 t207 t208 _ A3.out).mono ?_
 rintro e w9 ⟨rfl, hb⟩
 refine ⟨_, rfl, ?_⟩
 have n0_ := Aside0.mk (blk_below (bk_ BK204.out) hb)
 have n1_ := Aside0.mk (blk_below (bk_ BK205.out) hb)
 have n2_ := Aside0.mk (below_step (hd_ HB.out GE204.out GE205.out) hb)
 clear BK204
 clear BK205
 clear HB
 have BK204 := n0_
 have BK205 := n1_
 have HB := n2_
 clear n0_ n1_ n2_
 (try clear hb)
 (try clear hb2)
 (try clear hk)
 (try clear hi)
 refine hK.out _ _ ⟨(blk_cell BK204.out 0).trans rfl, (blk_cell BK204.out 1).trans rfl, (blk_cell BK204.out 2).trans rfl, (blk_cell BK205.out 0).trans rfl, (blk_cell BK205.out 1).trans rfl, (blk_cell BK205.out 2).trans rfl⟩ (fun hHeld => ?_)
 clear hK K
 refine norm_ (a' := ?_) ?_ ?_
 rotate_left
 ·show Act.put _ (some 7) _ = _
  simp only [put, setIfInBounds_toArray, set_cons_zero, set_cons_succ, i64_w, i32_w]
  rfl
 refine one_ (i := 3) (N := some 9) #[true, true, true, true, false, false] rfl rfl (by kernel_rfl) (by decide) (fun K hK => ?_)
 refine goes_ Try.func101 (by kernel_rfl) rfl #[.agg #[.bool a1_0, .int .i64 a1_1, .int .i64 a1_2]] (by rfl) rfl rfl al_ ?_
 with_reducible refine (impl_right.calls a1_0 a1_1 a1_2 t209 t210 t211 _ A4.out).mono ?_
 rintro e w10 ⟨rfl, hb⟩
 refine ⟨_, rfl, ?_⟩
 have n0_ := Aside0.mk (blk_below (bk_ BK204.out) hb)
 have n1_ := Aside0.mk (blk_below (bk_ BK205.out) hb)
 have n2_ := Aside0.mk (below_step (hd_ HB.out GE204.out GE205.out) hb)
 clear BK204
 clear BK205
 clear HB
 have BK204 := n0_
 have BK205 := n1_
 have HB := n2_
 clear n0_ n1_ n2_
 (try clear hb)
 (try clear hb2)
 (try clear hk)
 (try clear hi)
 refine hK.out _ _ ⟨(blk_cell BK204.out 0).trans rfl, (blk_cell BK204.out 1).trans rfl, (blk_cell BK204.out 2).trans rfl, (blk_cell BK205.out 0).trans rfl, (blk_cell BK205.out 1).trans rfl, (blk_cell BK205.out 2).trans rfl⟩ (fun hHeld => ?_)
 clear hK K
 refine norm_ (a' := ?_) ?_ ?_
 rotate_left
 ·show Act.put _ (some 9) _ = _
  simp only [put, setIfInBounds_toArray, set_cons_zero, set_cons_succ, i64_w, i32_w]
  rfl
 refine last_ (i := 4) (N := none) #[true, true, true, true, true, false] rfl rfl (by kernel_rfl) (by decide) (fun K hK => ?_)
 have hs11 : w10.cell? ⟨gb204, 0, none⟩ = some (.bool a0_0) := (blk_cell BK204.out 0).trans rfl
 have hfs11 := blk_frozen BK204.out 0
 have hns11_1 := NB205_204.out
 have hms11_1 := NB204_205.out
 have hs12 : w10.cell? ⟨gb204, 1, none⟩ = some (.int .i64 a0_1) := (blk_cell BK204.out 1).trans rfl
 have hfs12 := blk_frozen BK204.out 1
 have hns12_1 := NB205_204.out
 have hms12_1 := NB204_205.out
 have hs13 : w10.cell? ⟨gb204, 2, none⟩ = some (.int .i64 a0_2) := (blk_cell BK204.out 2).trans rfl
 have hfs13 := blk_frozen BK204.out 2
 have hns13_1 := NB205_204.out
 have hms13_1 := NB204_205.out
 refine skip_ (w1 := ?_) (by rfl) rfl ?_ ?_
 rotate_left
 ·go_simp
  rfl
 refine hK.out _ _ ?_
 clear hK K
 refine last_ (i := 5) (N := none) #[true, true, true, true, true, true] rfl rfl (by kernel_rfl) (by decide) (fun K hK => ?_)
 have hs14 : w10.cell? ⟨gb205, 0, none⟩ = some (.bool a1_0) := (blk_cell BK205.out 0).trans rfl
 have hfs14 := blk_frozen BK205.out 0
 have hns14_0 := NB204_205.out
 have hms14_0 := NB205_204.out
 have hs15 : w10.cell? ⟨gb205, 1, none⟩ = some (.int .i64 a1_1) := (blk_cell BK205.out 1).trans rfl
 have hfs15 := blk_frozen BK205.out 1
 have hns15_0 := NB204_205.out
 have hms15_0 := NB205_204.out
 have hs16 : w10.cell? ⟨gb205, 2, none⟩ = some (.int .i64 a1_2) := (blk_cell BK205.out 2).trans rfl
 have hfs16 := blk_frozen BK205.out 2
 have hns16_0 := NB204_205.out
 have hms16_0 := NB205_204.out
 refine skip_ (w1 := ?_) (by rfl) rfl ?_ ?_
 rotate_left
 ·go_simp
  rfl
 refine hK.out _ _ ?_
 clear hK K
 refine done_ (by kernel_rfl) ?_
 go_upto_block 0 with (fail)
 go_cut [] (fun wc => ∃ (kq : Nat), Aside0 (impl_CmpAddr.j1 kq t206 t207 t208 t209 t210 t211 = some r) ∧ Aside0 (kq ≤ k) ∧ Aside0 (wc.heap[gb204]? = some (.cells #[.bool t206, .int .i64 t207, .int .i64 t208] 29 (0, 0))) ∧ Aside0 (wc.heap[gb205]? = some (.cells #[.bool t209, .int .i64 t210, .int .i64 t211] 29 (0, 0))) ∧ Aside0 (Below w.heap.size w wc))
 case first =>
  have H := HC5.out
  clear HC5
  have HC17 := Aside0.mk H
  clear H
  go_upto_region 2 with (fail)
  go_cut [10] (fun v10 wc => ∃ (kq : Nat) (x10_16 : Bool), v10 = .bool x10_16 ∧ Aside0 (impl_CmpAddr.j0 kq x10_16 t206 t207 t208 t209 t210 t211 = some r) ∧ Aside0 (kq ≤ k) ∧ Aside0 (wc.heap[gb204]? = some (.cells #[.bool t206, .int .i64 t207, .int .i64 t208] 29 (0, 0))) ∧ Aside0 (wc.heap[gb205]? = some (.cells #[.bool t209, .int .i64 t210, .int .i64 t211] 29 (0, 0))) ∧ Aside0 (Below w.heap.size w wc))
  case first =>
   have H := HC17.out
   clear HC17
   by_cases c18 : t206 = true
   ·subst c18
    have H1 : (impl_CmpAddr.j0 k false true t207 t208 t209 t210 t211) = some r := by rw [if_pos rfl] at H; exact H
    clear H
    have H := H1
    clear H1
    have H' := Aside0.mk H
    clear H
    have hnb19 := NB204_205.out
    have hnc19 := NB205_204.out
    obtain ⟨hcz20_0, hcz20_1, hcz20_2, hfz20_0, hfz20_1, hfz20_2⟩ := bc3_ BK204.out
    go_wp2
    go_meet
    case rel => exact ⟨_, (false), (by first | rfl | (simp; done) | (simp [*]; done)), H', ⟨by first | omega | exact Nat.le_refl _⟩, ⟨by refine bk_ ?_; refine blk_far ?_ NB204_205.out _; refine bk_ ?_; refine blk_far ?_ NB204_205.out _; refine bk_ ?_; refine blk_far ?_ NB204_205.out _; refine bk_ ?_; refine blk_put (cs := #[.bool true, .int .i64 t207, .int .i64 a0_2]) ?_ 2 _ rfl; refine bk_ ?_; refine blk_put (cs := #[.bool true, .int .i64 a0_1, .int .i64 a0_2]) ?_ 1 _ rfl; refine bk_ ?_; refine blk_put (cs := #[.bool a0_0, .int .i64 a0_1, .int .i64 a0_2]) ?_ 0 _ rfl; refine bk_ ?_; exact BK204.out⟩, ⟨by refine bk_ ?_; refine blk_put (cs := #[.bool t209, .int .i64 t210, .int .i64 a1_2]) ?_ 2 _ rfl; refine bk_ ?_; refine blk_put (cs := #[.bool t209, .int .i64 a1_1, .int .i64 a1_2]) ?_ 1 _ rfl; refine bk_ ?_; refine blk_put (cs := #[.bool a1_0, .int .i64 a1_1, .int .i64 a1_2]) ?_ 0 _ rfl; refine bk_ ?_; refine blk_far ?_ NB205_204.out _; refine bk_ ?_; refine blk_far ?_ NB205_204.out _; refine bk_ ?_; refine blk_far ?_ NB205_204.out _; refine bk_ ?_; exact BK205.out⟩, ⟨hd_ HB.out GE204.out GE205.out⟩⟩
   ·replace c18 := Bool.eq_false_iff.mpr c18
    subst c18
    have H1 : (impl_CmpAddr.j0 k t209 false t207 t208 t209 t210 t211) = some r := by rw [if_neg (show ¬ (false = true) by decide)] at H; exact H
    clear H
    have H := H1
    clear H1
    have H' := Aside0.mk H
    clear H
    have hnb21 := NB204_205.out
    have hnc21 := NB205_204.out
    obtain ⟨hcz22_0, hcz22_1, hcz22_2, hfz22_0, hfz22_1, hfz22_2⟩ := bc3_ BK204.out
    obtain ⟨hcz23_0, hcz23_1, hcz23_2, hfz23_0, hfz23_1, hfz23_2⟩ := bc3_ BK205.out
    go_wp2
    go_meet
    case rel => exact ⟨_, (t209), (by first | rfl | (simp; done) | (simp [*]; done)), H', ⟨by first | omega | exact Nat.le_refl _⟩, ⟨by refine bk_ ?_; refine blk_far ?_ NB204_205.out _; refine bk_ ?_; refine blk_far ?_ NB204_205.out _; refine bk_ ?_; refine blk_far ?_ NB204_205.out _; refine bk_ ?_; refine blk_put (cs := #[.bool false, .int .i64 t207, .int .i64 a0_2]) ?_ 2 _ rfl; refine bk_ ?_; refine blk_put (cs := #[.bool false, .int .i64 a0_1, .int .i64 a0_2]) ?_ 1 _ rfl; refine bk_ ?_; refine blk_put (cs := #[.bool a0_0, .int .i64 a0_1, .int .i64 a0_2]) ?_ 0 _ rfl; refine bk_ ?_; exact BK204.out⟩, ⟨by refine bk_ ?_; refine blk_put (cs := #[.bool t209, .int .i64 t210, .int .i64 a1_2]) ?_ 2 _ rfl; refine bk_ ?_; refine blk_put (cs := #[.bool t209, .int .i64 a1_1, .int .i64 a1_2]) ?_ 1 _ rfl; refine bk_ ?_; refine blk_put (cs := #[.bool a1_0, .int .i64 a1_1, .int .i64 a1_2]) ?_ 0 _ rfl; refine bk_ ?_; refine blk_far ?_ NB205_204.out _; refine bk_ ?_; refine blk_far ?_ NB205_204.out _; refine bk_ ?_; refine blk_far ?_ NB205_204.out _; refine bk_ ?_; exact BK205.out⟩, ⟨hd_ HB.out GE204.out GE205.out⟩⟩
  case rest =>
   clear HC17
   try clear c1
   try clear c2
   try clear p2
   try clear c8
   try clear c10
   try clear c18
   try clear c19
   try clear c21
   try clear hcz20_0
   try clear hcz20_1
   try clear hcz20_2
   try clear hcz22_0
   try clear hcz22_1
   try clear hcz22_2
   try clear hcz23_0
   try clear hcz23_1
   try clear hcz23_2
   try clear hfz20_0
   try clear hfz20_1
   try clear hfz20_2
   try clear hfz22_0
   try clear hfz22_1
   try clear hfz22_2
   try clear hfz23_0
   try clear hfz23_1
   try clear hfz23_2
   obtain ⟨kq, x10_16, rfl, HA, HJ16, BK204, BK205, HB⟩ := hcut
   cases kq with
   | zero => exact absurd HA.out (by simp [impl_CmpAddr.j0])
   | succ kj16 =>
    have H := HA.out
    clear HA
    simp only [impl_CmpAddr.j0] at H
    by_cases c24 : x10_16 = true
    ·subst c24
     have H1 : (some (-1)) = some r := by rw [if_pos rfl] at H; exact H
     clear H
     have H := H1
     clear H1
     obtain rfl := Option.some.inj H
     go_wp2
     go_ret
     exact ⟨pe_, hd_ HB.out GE204.out GE205.out⟩
    ·replace c24 := Bool.eq_false_iff.mpr c24
     subst c24
     have H1 : (if t206 = true then (if t209 = true then (impl_CmpAddr.j1 kj16 t206 t207 t208 t209 t210 t211) else (some 1)) else (impl_CmpAddr.j1 kj16 t206 t207 t208 t209 t210 t211)) = some r := by rw [if_neg (show ¬ (false = true) by decide)] at H; exact H
     clear H
     have H := H1
     clear H1
     by_cases c25 : t206 = true
     ·subst c25
      have H1 : (if t209 = true then (impl_CmpAddr.j1 kj16 true t207 t208 t209 t210 t211) else (some 1)) = some r := by rw [if_pos rfl] at H; exact H
      clear H
      have H := H1
      clear H1
      by_cases c26 : t209 = true
      ·subst c26
       have H1 : (impl_CmpAddr.j1 kj16 true t207 t208 true t210 t211) = some r := by rw [if_pos rfl] at H; exact H
       clear H
       have H := H1
       clear H1
       have H' := Aside0.mk H
       clear H
       have hnb27 := NB204_205.out
       have hnc27 := NB205_204.out
       obtain ⟨hcz28_0, hcz28_1, hcz28_2, hfz28_0, hfz28_1, hfz28_2⟩ := bc3_ BK204.out
       obtain ⟨hcz29_0, hcz29_1, hcz29_2, hfz29_0, hfz29_1, hfz29_2⟩ := bc3_ BK205.out
       go_wp2
       go_meet
       case rel => exact ⟨_, H', ⟨by have := HJ16.out; first | omega | exact Nat.le_refl _⟩, ⟨by refine bk_ ?_; exact BK204.out⟩, ⟨by refine bk_ ?_; exact BK205.out⟩, ⟨hd_ HB.out GE204.out GE205.out⟩⟩
      ·replace c26 := Bool.eq_false_iff.mpr c26
       subst c26
       have H1 : (some 1) = some r := by rw [if_neg (show ¬ (false = true) by decide)] at H; exact H
       clear H
       have H := H1
       clear H1
       obtain rfl := Option.some.inj H
       have hnb30 := NB204_205.out
       have hnc30 := NB205_204.out
       obtain ⟨hcz31_0, hcz31_1, hcz31_2, hfz31_0, hfz31_1, hfz31_2⟩ := bc3_ BK204.out
       obtain ⟨hcz32_0, hcz32_1, hcz32_2, hfz32_0, hfz32_1, hfz32_2⟩ := bc3_ BK205.out
       go_wp2
       go_ret
       exact ⟨pe_, hd_ HB.out GE204.out GE205.out⟩
     ·replace c25 := Bool.eq_false_iff.mpr c25
      subst c25
      have H1 : (impl_CmpAddr.j1 kj16 false t207 t208 t209 t210 t211) = some r := by rw [if_neg (show ¬ (false = true) by decide)] at H; exact H
      clear H
      have H := H1
      clear H1
      have H' := Aside0.mk H
      clear H
      have hnb33 := NB204_205.out
      have hnc33 := NB205_204.out
      obtain ⟨hcz34_0, hcz34_1, hcz34_2, hfz34_0, hfz34_1, hfz34_2⟩ := bc3_ BK204.out
      go_wp2
      go_meet
      case rel => exact ⟨_, H', ⟨by have := HJ16.out; first | omega | exact Nat.le_refl _⟩, ⟨by refine bk_ ?_; exact BK204.out⟩, ⟨by refine bk_ ?_; exact BK205.out⟩, ⟨hd_ HB.out GE204.out GE205.out⟩⟩
 case rest =>
  clear HC5
  try clear c1
  try clear c2
  try clear p2
  try clear c3
  try clear c8
  try clear c10
  try clear c18
  try clear c19
  try clear c21
  try clear c24
  try clear c25
  try clear c26
  try clear c27
  try clear c30
  try clear c33
  try clear hcz20_0
  try clear hcz20_1
  try clear hcz20_2
  try clear hcz22_0
  try clear hcz22_1
  try clear hcz22_2
  try clear hcz23_0
  try clear hcz23_1
  try clear hcz23_2
  try clear hcz28_0
  try clear hcz28_1
  try clear hcz28_2
  try clear hcz29_0
  try clear hcz29_1
  try clear hcz29_2
  try clear hcz31_0
  try clear hcz31_1
  try clear hcz31_2
  try clear hcz32_0
  try clear hcz32_1
  try clear hcz32_2
  try clear hcz34_0
  try clear hcz34_1
  try clear hcz34_2
  try clear hfz20_0
  try clear hfz20_1
  try clear hfz20_2
  try clear hfz22_0
  try clear hfz22_1
  try clear hfz22_2
  try clear hfz23_0
  try clear hfz23_1
  try clear hfz23_2
  try clear hfz28_0
  try clear hfz28_1
  try clear hfz28_2
  try clear hfz29_0
  try clear hfz29_1
  try clear hfz29_2
  try clear hfz31_0
  try clear hfz31_1
  try clear hfz31_2
  try clear hfz32_0
  try clear hfz32_1
  try clear hfz32_2
  try clear hfz34_0
  try clear hfz34_1
  try clear hfz34_2
  try clear p2
  obtain ⟨kq, HA, HJ4, BK204, BK205, HB⟩ := hcut
  cases kq with
  | zero => exact absurd HA.out (by simp [impl_CmpAddr.j1])
  | succ kj4 =>
   have H := HA.out
   clear HA
   simp only [impl_CmpAddr.j1] at H
   replace H := Option.bind_eq_some_iff.mp H
   obtain ⟨t212, A350, H⟩ := H
   replace H : (if t212 = 0 then ((cmp_Compare_uint64.f (IntKind.u64.wrap (t208)) (IntKind.u64.wrap (t211))).bind fun t213 => (some t213)) else (some t212)) = some r := H
   have A35 := Aside0.mk A350
   clear A350
   by_cases c36 : t212 = 0
   ·rw [if_pos c36] at H
    have c36b0 : (t212 == 0) = true := beq_iff_eq.mpr c36
    have c36b1 : (t212 != 0) = false := bne_eq_false_iff_eq.mpr c36
    clear c36
    replace H := Option.bind_eq_some_iff.mp H
    obtain ⟨t213, A370, H⟩ := H
    replace H : (some t213) = some r := H
    have A37 := Aside0.mk A370
    clear A370
    obtain rfl := Option.some.inj H
    have hnb38 := NB204_205.out
    have hnc38 := NB205_204.out
    obtain ⟨hcz39_0, hcz39_1, hcz39_2, hfz39_0, hfz39_1, hfz39_2⟩ := bc3_ BK204.out
    obtain ⟨hcz40_0, hcz40_1, hcz40_2, hfz40_0, hfz40_1, hfz40_2⟩ := bc3_ BK205.out
    go_wp2_with (first | ((with_reducible refine gate_callee (f := 148) rfl ?_); refine goesL_ (some 32) rfl rfl Try.func148 (by kernel_rfl) rfl #[.int .u64 (IntKind.u64.wrap (t207)), .int .u64 (IntKind.u64.wrap (t210))] rfl al_ ?_; (with_reducible refine (cmp_Compare_uint64.calls (IntKind.u64.wrap (t207)) (IntKind.u64.wrap (t210)) t212 _ A35.out).mono ?_); rintro e w' ⟨rfl, ⟨nd, rfl⟩⟩; refine ⟨_, rfl, ?_⟩) | ((with_reducible refine gate_callee (f := 148) rfl ?_); refine goesL_ (some 42) rfl rfl Try.func148 (by kernel_rfl) rfl #[.int .u64 (IntKind.u64.wrap (t208)), .int .u64 (IntKind.u64.wrap (t211))] rfl al_ ?_; (with_reducible refine (cmp_Compare_uint64.calls (IntKind.u64.wrap (t208)) (IntKind.u64.wrap (t211)) t213 _ A37.out).mono ?_); rintro e w' ⟨rfl, ⟨nd, rfl⟩⟩; refine ⟨_, rfl, ?_⟩))
    go_ret
    exact ⟨pe_, hd_ HB.out GE204.out GE205.out⟩
   ·rw [if_neg c36] at H
    have c36b0 : (t212 == 0) = false := beq_eq_false_iff_ne.mpr c36
    have c36b1 : (t212 != 0) = true := bne_iff_ne.mpr c36
    obtain rfl := Option.some.inj H
    have hnb41 := NB204_205.out
    have hnc41 := NB205_204.out
    obtain ⟨hcz42_0, hcz42_1, hcz42_2, hfz42_0, hfz42_1, hfz42_2⟩ := bc3_ BK204.out
    obtain ⟨hcz43_0, hcz43_1, hcz43_2, hfz43_0, hfz43_1, hfz43_2⟩ := bc3_ BK205.out
    go_wp2_with (first | ((with_reducible refine gate_callee (f := 148) rfl ?_); refine goesL_ (some 32) rfl rfl Try.func148 (by kernel_rfl) rfl #[.int .u64 (IntKind.u64.wrap (t207)), .int .u64 (IntKind.u64.wrap (t210))] rfl al_ ?_; (with_reducible refine (cmp_Compare_uint64.calls (IntKind.u64.wrap (t207)) (IntKind.u64.wrap (t210)) t212 _ A35.out).mono ?_); rintro e w' ⟨rfl, ⟨nd, rfl⟩⟩; refine ⟨_, rfl, ?_⟩))
    go_ret
    exact ⟨pe_, hd_ HB.out GE204.out GE205.out⟩

end Go.Proofs.Ythakdhdoeejkmaa.QFnFirstAddr
