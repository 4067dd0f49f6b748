-- Written by a program of this session (wip/myprint.py); Lean checks it.
import Derived.Test.YtigmadccchofiaaQFnExactLargestx0
import Derived.Test.YtigmadccchofiaaQFnExactLargestx10
import Derived.Test.YtigmadccchofiaaQFnExactLargestx11
import Derived.Test.YtigmadccchofiaaQFnExactLargestx12
namespace Go.Proofs.Ytigmadccchofiaa.QFnExactLargest
open Go.RowKit Go.Proofs.YtigmadccchofiaaW.PrintWords Go.Proofs.YtigmadccchofiaaW.PrintLast Go.Proofs.YtigmadccchofiaaW.PrintMore
open Act (put)
open List (setIfInBounds_toArray set_cons_zero set_cons_succ)
attribute [local go_sem] max2_int min2_int max_two min_two max_three min_three max_four min_four   -- for this text's walks alone
set_option linter.unusedVariables false
set_option linter.unusedSimpArgs false

attribute [local go_sem] isSome_setCell
/-! ### impl_Within: function 130 -/
def impl_Within.f (a0_0 : Bool) (a0_1 : Int) (a0_2 : Int) (a0_3 : Int) (a1_0 : Bool) (a1_1 : Int) (a1_2 : Int) (a1_3 : Int) : Option (Bool) := (impl_PrefixOk.f a0_0 a0_1 a0_2 a0_3).bind fun t266 => (if t266 = true then ((impl_HasAddr.f a1_0 a1_1 a1_2 a1_3 a0_0 a0_1 a0_2).bind fun t267 => (if t267 = true then (some (decide (a0_3 ≥ a1_3))) else (some false))) else (some false))
set_option maxHeartbeats 8000000 in
set_option maxRecDepth 100000 in
theorem impl_Within.calls (a0_0 : Bool) (a0_1 : Int) (a0_2 : Int) (a0_3 : Int) (a1_0 : Bool) (a1_1 : Int) (a1_2 : Int) (a1_3 : Int) (r : Bool) (w : World) (h : impl_Within.f a0_0 a0_1 a0_2 a0_3 a1_0 a1_1 a1_2 a1_3 = some r) :
  Calls Try.prog 130 #[.agg #[.bool a0_0, .int .i64 a0_1, .int .i64 a0_2, .int .i64 a0_3], .agg #[.bool a1_0, .int .i64 a1_1, .int .i64 a1_2, .int .i64 a1_3]] w fun e w' => e = .returned (.bool r) ∧ Below w.heap.size w w' := by
 have hu32 := Try.underlying32
 have hu26 := Try.underlying26
 have HB := Aside0.mk (Below.refl w.heap.size w)
 have H : ((impl_PrefixOk.f a0_0 a0_1 a0_2 a0_3).bind fun t266 => (if t266 = true then ((impl_HasAddr.f a1_0 a1_1 a1_2 a1_3 a0_0 a0_1 a0_2).bind fun t267 => (if t267 = true then (some (decide (a0_3 ≥ a1_3))) else (some false))) else (some false))) = some r := h
 clear h
 replace H := Option.bind_eq_some_iff.mp H
 obtain ⟨t266, A30, H⟩ := H
 replace H : (if t266 = true then ((impl_HasAddr.f a1_0 a1_1 a1_2 a1_3 a0_0 a0_1 a0_2).bind fun t267 => (if t267 = true then (some (decide (a0_3 ≥ a1_3))) else (some false))) else (some false)) = some r := H
 have A3 := Aside0.mk A30
 clear A30
 by_cases c4 : t266 = true
 ·subst c4
  have H1 : ((impl_HasAddr.f a1_0 a1_1 a1_2 a1_3 a0_0 a0_1 a0_2).bind fun t267 => (if t267 = true then (some (decide (a0_3 ≥ a1_3))) else (some false))) = some r := by rw [if_pos rfl] at H; exact H
  clear H
  have H := H1
  clear H1
  replace H := Option.bind_eq_some_iff.mp H
  obtain ⟨t267, A50, H⟩ := H
  replace H : (if t267 = true then (some (decide (a0_3 ≥ a1_3))) else (some false)) = some r := H
  have A5 := Aside0.mk A50
  clear A50
  by_cases c6 : t267 = true
  ·subst c6
   have H1 : (some (decide (a0_3 ≥ a1_3))) = some r := by rw [if_pos rfl] at H; exact H
   clear H
   have H := H1
   clear H1
   obtain rfl := Option.some.inj H
   go_enter Try.func130, Try.ntmps130
   go_wp2_with (first | ((with_reducible refine gate_dst (N := 2) rfl ?_); refine box_event ?hg (N := 2) ?hd (cs := #[.bool a0_0, .int .i64 a0_1, .int .i64 a0_2, .int .i64 a0_3]) (t := 32) ?hr ?_; (case hd => rfl); (case hg => rfl); (case hr => first | (go_simp; done) | (go_simp; rfl)); intro gb264 hg w7 hbox hb; have n0_ := Aside0.mk (below_step (hb_ HB.out) hb); have n1_ := Aside0.mk (hbox); have n2_ := bg_ hg (below_size (hb_ HB.out)); have n3_ := bg_ hg (below_size (hb_ HB.out)); clear HB; have HB := n0_; have BK264 := n1_; have GW264 := n2_; have GE264 := n3_; clear n0_ n1_ n2_ n3_; clear hb hbox hg) | ((with_reducible refine gate_dst (N := 3) rfl ?_); refine box_event ?hg (N := 3) ?hd (cs := #[.bool a1_0, .int .i64 a1_1, .int .i64 a1_2, .int .i64 a1_3]) (t := 32) ?hr ?_; (case hd => rfl); (case hg => rfl); (case hr => first | (go_simp; done) | (go_simp; rfl)); intro gb265 hg w8 hbox hb; have n0_ := Aside0.mk (blk_below (bk_ BK264.out) hb); have n1_ := Aside0.mk (below_step (hc_ HB.out GE264.out) hb); have n2_ := Aside0.mk (hbox); have n3_ := bg_ hg (below_size (hc_ HB.out GE264.out)); have n4_ := bg_ hg (below_size (hc_ HB.out GE264.out)); have n5_ := bn_ hg (blk_lt (bk_ BK264.out)); have n6_ := bm_ hg (blk_lt (bk_ BK264.out)); clear BK264; clear HB; have BK264 := n0_; have HB := n1_; have BK265 := n2_; have GW265 := n3_; have GE265 := n4_; have NB264_265 := n5_; have NB265_264 := n6_; clear n0_ n1_ n2_ n3_ n4_ n5_ n6_; clear hb hbox hg; have hnb9 := NB264_265.out; have hnc9 := NB265_264.out; obtain ⟨hcz10_0, hcz10_1, hcz10_2, hcz10_3, hfz10_0, hfz10_1, hfz10_2, hfz10_3⟩ := bc4_ BK264.out) | ((with_reducible refine gate_callee (f := 68) rfl ?_); refine goesL_ (some 6) rfl rfl Try.func68 (by kernel_rfl) rfl #[.agg #[.bool a0_0, .int .i64 a0_1, .int .i64 a0_2, .int .i64 a0_3]] rfl al_ ?_; (with_reducible refine (impl_PrefixOk.calls a0_0 a0_1 a0_2 a0_3 true _ A3.out).mono ?_); rintro e w11 ⟨rfl, hb⟩; refine ⟨_, rfl, ?_⟩; have n0_ := Aside0.mk (blk_below (bk_ BK264.out) hb); have n1_ := Aside0.mk (blk_below (bk_ BK265.out) hb); have n2_ := Aside0.mk (below_step (hd_ HB.out GE264.out GE265.out) hb); clear BK264; clear BK265; clear HB; have BK264 := n0_; have BK265 := n1_; have HB := n2_; clear n0_ n1_ n2_; (try clear hb); (try clear hb2); (try clear hk); (try clear hi); obtain ⟨hcz12_0, hcz12_1, hcz12_2, hcz12_3, hfz12_0, hfz12_1, hfz12_2, hfz12_3⟩ := bc4_ BK265.out; obtain ⟨hcz13_0, hcz13_1, hcz13_2, hcz13_3, hfz13_0, hfz13_1, hfz13_2, hfz13_3⟩ := bc4_ BK264.out) | (go_at_call 85; (with_reducible refine (impl_HasAddr.calls a1_0 a1_1 a1_2 a1_3 a0_0 a0_1 a0_2 true _ A5.out).mono ?_); rintro e w14 ⟨rfl, hb⟩; have n0_ := Aside0.mk (blk_below (bk_ BK264.out) hb); have n1_ := Aside0.mk (blk_below (bk_ BK265.out) hb); have n2_ := Aside0.mk (below_step (hd_ HB.out GE264.out GE265.out) hb); clear BK264; clear BK265; clear HB; have BK264 := n0_; have BK265 := n1_; have HB := n2_; clear n0_ n1_ n2_; (try clear hb); (try clear hb2); (try clear hk); (try clear hi); obtain ⟨hcz15_0, hcz15_1, hcz15_2, hcz15_3, hfz15_0, hfz15_1, hfz15_2, hfz15_3⟩ := bc4_ BK264.out; obtain ⟨hcz16_0, hcz16_1, hcz16_2, hcz16_3, hfz16_0, hfz16_1, hfz16_2, hfz16_3⟩ := bc4_ BK265.out))
   go_ret
   exact ⟨pe_, hd_ HB.out GE264.out GE265.out⟩
  ·replace c6 := Bool.eq_false_iff.mpr c6
   subst c6
   have H1 : (some false) = some r := by rw [if_neg (show ¬ (false = true) by decide)] at H; exact H
   clear H
   have H := H1
   clear H1
   obtain rfl := Option.some.inj H
   go_enter Try.func130, Try.ntmps130
   go_wp2_with (first | ((with_reducible refine gate_dst (N := 2) rfl ?_); refine box_event ?hg (N := 2) ?hd (cs := #[.bool a0_0, .int .i64 a0_1, .int .i64 a0_2, .int .i64 a0_3]) (t := 32) ?hr ?_; (case hd => rfl); (case hg => rfl); (case hr => first | (go_simp; done) | (go_simp; rfl)); intro gb264 hg w17 hbox hb; have n0_ := Aside0.mk (below_step (hb_ HB.out) hb); have n1_ := Aside0.mk (hbox); have n2_ := bg_ hg (below_size (hb_ HB.out)); have n3_ := bg_ hg (below_size (hb_ HB.out)); clear HB; have HB := n0_; have BK264 := n1_; have GW264 := n2_; have GE264 := n3_; clear n0_ n1_ n2_ n3_; clear hb hbox hg) | ((with_reducible refine gate_dst (N := 3) rfl ?_); refine box_event ?hg (N := 3) ?hd (cs := #[.bool a1_0, .int .i64 a1_1, .int .i64 a1_2, .int .i64 a1_3]) (t := 32) ?hr ?_; (case hd => rfl); (case hg => rfl); (case hr => first | (go_simp; done) | (go_simp; rfl)); intro gb265 hg w18 hbox hb; have n0_ := Aside0.mk (blk_below (bk_ BK264.out) hb); have n1_ := Aside0.mk (below_step (hc_ HB.out GE264.out) hb); have n2_ := Aside0.mk (hbox); have n3_ := bg_ hg (below_size (hc_ HB.out GE264.out)); have n4_ := bg_ hg (below_size (hc_ HB.out GE264.out)); have n5_ := bn_ hg (blk_lt (bk_ BK264.out)); have n6_ := bm_ hg (blk_lt (bk_ BK264.out)); clear BK264; clear HB; have BK264 := n0_; have HB := n1_; have BK265 := n2_; have GW265 := n3_; have GE265 := n4_; have NB264_265 := n5_; have NB265_264 := n6_; clear n0_ n1_ n2_ n3_ n4_ n5_ n6_; clear hb hbox hg; have hnb19 := NB264_265.out; have hnc19 := NB265_264.out; obtain ⟨hcz20_0, hcz20_1, hcz20_2, hcz20_3, hfz20_0, hfz20_1, hfz20_2, hfz20_3⟩ := bc4_ BK264.out) | ((with_reducible refine gate_callee (f := 68) rfl ?_); refine goesL_ (some 6) rfl rfl Try.func68 (by kernel_rfl) rfl #[.agg #[.bool a0_0, .int .i64 a0_1, .int .i64 a0_2, .int .i64 a0_3]] rfl al_ ?_; (with_reducible refine (impl_PrefixOk.calls a0_0 a0_1 a0_2 a0_3 true _ A3.out).mono ?_); rintro e w21 ⟨rfl, hb⟩; refine ⟨_, rfl, ?_⟩; have n0_ := Aside0.mk (blk_below (bk_ BK264.out) hb); have n1_ := Aside0.mk (blk_below (bk_ BK265.out) hb); have n2_ := Aside0.mk (below_step (hd_ HB.out GE264.out GE265.out) hb); clear BK264; clear BK265; clear HB; have BK264 := n0_; have BK265 := n1_; have HB := n2_; clear n0_ n1_ n2_; (try clear hb); (try clear hb2); (try clear hk); (try clear hi); obtain ⟨hcz22_0, hcz22_1, hcz22_2, hcz22_3, hfz22_0, hfz22_1, hfz22_2, hfz22_3⟩ := bc4_ BK265.out; obtain ⟨hcz23_0, hcz23_1, hcz23_2, hcz23_3, hfz23_0, hfz23_1, hfz23_2, hfz23_3⟩ := bc4_ BK264.out) | (go_at_call 85; (with_reducible refine (impl_HasAddr.calls a1_0 a1_1 a1_2 a1_3 a0_0 a0_1 a0_2 false _ A5.out).mono ?_); rintro e w24 ⟨rfl, hb⟩; have n0_ := Aside0.mk (blk_below (bk_ BK264.out) hb); have n1_ := Aside0.mk (blk_below (bk_ BK265.out) hb); have n2_ := Aside0.mk (below_step (hd_ HB.out GE264.out GE265.out) hb); clear BK264; clear BK265; clear HB; have BK264 := n0_; have BK265 := n1_; have HB := n2_; clear n0_ n1_ n2_; (try clear hb); (try clear hb2); (try clear hk); (try clear hi)))
   go_ret
   exact ⟨pe_, hd_ HB.out GE264.out GE265.out⟩
 ·replace c4 := Bool.eq_false_iff.mpr c4
  subst c4
  have H1 : (some false) = some r := by rw [if_neg (show ¬ (false = true) by decide)] at H; exact H
  clear H
  have H := H1
  clear H1
  obtain rfl := Option.some.inj H
  go_enter Try.func130, Try.ntmps130
  go_wp2_with (first | ((with_reducible refine gate_dst (N := 2) rfl ?_); refine box_event ?hg (N := 2) ?hd (cs := #[.bool a0_0, .int .i64 a0_1, .int .i64 a0_2, .int .i64 a0_3]) (t := 32) ?hr ?_; (case hd => rfl); (case hg => rfl); (case hr => first | (go_simp; done) | (go_simp; rfl)); intro gb264 hg w25 hbox hb; have n0_ := Aside0.mk (below_step (hb_ HB.out) hb); have n1_ := Aside0.mk (hbox); have n2_ := bg_ hg (below_size (hb_ HB.out)); have n3_ := bg_ hg (below_size (hb_ HB.out)); clear HB; have HB := n0_; have BK264 := n1_; have GW264 := n2_; have GE264 := n3_; clear n0_ n1_ n2_ n3_; clear hb hbox hg) | ((with_reducible refine gate_dst (N := 3) rfl ?_); refine box_event ?hg (N := 3) ?hd (cs := #[.bool a1_0, .int .i64 a1_1, .int .i64 a1_2, .int .i64 a1_3]) (t := 32) ?hr ?_; (case hd => rfl); (case hg => rfl); (case hr => first | (go_simp; done) | (go_simp; rfl)); intro gb265 hg w26 hbox hb; have n0_ := Aside0.mk (blk_below (bk_ BK264.out) hb); have n1_ := Aside0.mk (below_step (hc_ HB.out GE264.out) hb); have n2_ := Aside0.mk (hbox); have n3_ := bg_ hg (below_size (hc_ HB.out GE264.out)); have n4_ := bg_ hg (below_size (hc_ HB.out GE264.out)); have n5_ := bn_ hg (blk_lt (bk_ BK264.out)); have n6_ := bm_ hg (blk_lt (bk_ BK264.out)); clear BK264; clear HB; have BK264 := n0_; have HB := n1_; have BK265 := n2_; have GW265 := n3_; have GE265 := n4_; have NB264_265 := n5_; have NB265_264 := n6_; clear n0_ n1_ n2_ n3_ n4_ n5_ n6_; clear hb hbox hg; have hnb27 := NB264_265.out; have hnc27 := NB265_264.out; obtain ⟨hcz28_0, hcz28_1, hcz28_2, hcz28_3, hfz28_0, hfz28_1, hfz28_2, hfz28_3⟩ := bc4_ BK264.out) | ((with_reducible refine gate_callee (f := 68) rfl ?_); refine goesL_ (some 6) rfl rfl Try.func68 (by kernel_rfl) rfl #[.agg #[.bool a0_0, .int .i64 a0_1, .int .i64 a0_2, .int .i64 a0_3]] rfl al_ ?_; (with_reducible refine (impl_PrefixOk.calls a0_0 a0_1 a0_2 a0_3 false _ A3.out).mono ?_); rintro e w29 ⟨rfl, hb⟩; refine ⟨_, rfl, ?_⟩; have n0_ := Aside0.mk (blk_below (bk_ BK264.out) hb); have n1_ := Aside0.mk (blk_below (bk_ BK265.out) hb); have n2_ := Aside0.mk (below_step (hd_ HB.out GE264.out GE265.out) hb); clear BK264; clear BK265; clear HB; have BK264 := n0_; have BK265 := n1_; have HB := n2_; clear n0_ n1_ n2_; (try clear hb); (try clear hb2); (try clear hk); (try clear hi)))
  go_ret
  exact ⟨pe_, hd_ HB.out GE264.out GE265.out⟩

/-! ### impl_without: function 110 -/
mutual
def impl_without.l0 : Nat → List (S32) → List (S32) → Int → Int → Bool → Int → Int → Int → Option ((List (S32)))
 | 0, _, _, _, _, _, _, _, _ => none
 | k + 1, x5, x12, x13, x14, x269000, x269001, x269002, x269003 => if x14 < x13 then (if 0 ≤ x14 then (if x14 < (x12.length : Int) then ((impl_Within.f x269000 x269001 x269002 x269003 ((rd_T32 x12 x14).f0.f0) ((rd_T32 x12 x14).f0.f1) ((rd_T32 x12 x14).f0.f2) ((rd_T32 x12 x14).f1)).bind fun t274 => (if t274 = true then (some ([] : List (S32))) else ((impl_Within.f ((rd_T32 x12 x14).f0.f0) ((rd_T32 x12 x14).f0.f1) ((rd_T32 x12 x14).f0.f2) ((rd_T32 x12 x14).f1) x269000 x269001 x269002 x269003).bind fun t275 => (if t275 = true then (if x5.length < 4398046511104 then (impl_without.l0 k (x5 ++ [(⟨(⟨(rd_T32 x12 x14).f0.f0, (rd_T32 x12 x14).f0.f1, (rd_T32 x12 x14).f0.f2⟩ : S26), (rd_T32 x12 x14).f1⟩ : S32)]) x12 x13 (wrap64 (x14 + 1)) x269000 x269001 x269002 x269003) else (none)) else (impl_without.l0 k x5 x12 x13 (wrap64 (x14 + 1)) x269000 x269001 x269002 x269003))))) else (none)) else (none)) else (if (x5.length : Int) = 0 then (some (([(⟨(⟨x269000, x269001, x269002⟩ : S26), x269003⟩ : S32)] : List (S32)))) else ((impl_Halves.f x269000 x269001 x269002 x269003).bind fun bt282 => ((impl_without.f k bt282.1 bt282.2.1 bt282.2.2.1 bt282.2.2.2.1 x5).bind fun t293 => ((impl_without.f k bt282.2.2.2.2.1 bt282.2.2.2.2.2.1 bt282.2.2.2.2.2.2.1 bt282.2.2.2.2.2.2.2.1 x5).bind fun t296 => (if t293.length + t296.length < 4398046511104 then (some (t293 ++ t296)) else (none))))))
def impl_without.f : Nat → Bool → Int → Int → Int → List (S32) → Option ((List (S32)))
 | 0, _, _, _, _, _ => none
 | k + 1, a0_0, a0_1, a0_2, a0_3, l1 => impl_without.l0 k (([] : List (S32))) l1 (l1.length : Int) 0 a0_0 a0_1 a0_2 a0_3
end
theorem impl_without.mono_l : ∀ k, (∀ y0 y1 y2 y3 y4, LeO (impl_without.f k y0 y1 y2 y3 y4) (impl_without.f (k + 1) y0 y1 y2 y3 y4)) ∧ (∀ y0 y1 y2 y3 y4 y5 y6 y7, LeO (impl_without.l0 k y0 y1 y2 y3 y4 y5 y6 y7) (impl_without.l0 (k + 1) y0 y1 y2 y3 y4 y5 y6 y7))
 | 0 => ⟨fun _ _ _ _ _ r h => by simp [impl_without.f] at h, fun _ _ _ _ _ _ _ _ r h => by simp [impl_without.l0] at h⟩
 | k + 1 => by
  obtain ⟨ih0, ih1⟩ := impl_without.mono_l k
  refine ⟨?_, ?_⟩
  ·intro y0 y1 y2 y3 y4
   unfold impl_without.f
   repeat' first
   | (with_reducible exact ih0 _ _ _ _ _)
   | (with_reducible exact ih1 _ _ _ _ _ _ _ _)
   | (with_reducible exact LeO.refl _)
   | (with_reducible exact LeO.none _)
   | (with_reducible refine LeO.ite ?_ ?_)
   | (with_reducible refine LeO.bind ?_ (fun _ => ?_))
   | exact ih0 _ _ _ _ _
   | exact ih1 _ _ _ _ _ _ _ _
   | exact LeO.none _
   | refine LeO.ite ?_ ?_
   | refine LeO.bind ?_ (fun _ => ?_)
  ·intro y0 y1 y2 y3 y4 y5 y6 y7
   unfold impl_without.l0
   repeat' first
   | (with_reducible exact ih0 _ _ _ _ _)
   | (with_reducible exact ih1 _ _ _ _ _ _ _ _)
   | (with_reducible exact LeO.refl _)
   | (with_reducible exact LeO.none _)
   | (with_reducible refine LeO.ite ?_ ?_)
   | (with_reducible refine LeO.bind ?_ (fun _ => ?_))
   | exact ih0 _ _ _ _ _
   | exact ih1 _ _ _ _ _ _ _ _
   | exact LeO.none _
   | refine LeO.ite ?_ ?_
   | refine LeO.bind ?_ (fun _ => ?_)
theorem impl_without.mono : ∀ a0 a1 a2 a3 a4 k, LeO (impl_without.f k a0 a1 a2 a3 a4) (impl_without.f (k + 1) a0 a1 a2 a3 a4) := by
 intro a0 a1 a2 a3 a4 k
 obtain ⟨ih0, ih1⟩ := impl_without.mono_l k
 exact ih0 a0 a1 a2 a3 a4
def impl_without.T13 : Bool × List (List Nat × List Nat) := (true, [([], []), ([], []), ([0, 1], [0, 1]), ([], []), ([], []), ([3, 4, 2], [3, 4]), ([2, 5, 5], [2, 5]), ([6, 6, 0, 1, 2, 3, 4, 5, 6], [6])])
def impl_without.B13 : List Nat := [0, 0, 3, 0, 0, 31, 63, 127]
theorem impl_without.tab13 : rtab .any (opsOf Try.f110 13) = impl_without.T13 := by kernel_rfl
theorem impl_without.bits13 : waitsOk impl_without.T13.2 impl_without.B13 = true := by kernel_rfl
set_option maxHeartbeats 8000000 in
set_option maxRecDepth 100000 in
theorem impl_without.calls (k : Nat) : ∀ (a0_0 : Bool) (a0_1 : Int) (a0_2 : Int) (a0_3 : Int) (A1 : Option Addr) (c1 : Nat) (l1 : List (S32)) (r : List (S32)) (w : World) (hr1 : Kd.C k32 w A1 l1.length l1) (hc1 : l1.length ≤ c1) (h : impl_without.f k a0_0 a0_1 a0_2 a0_3 l1 = some r),
  Calls Try.prog 110 #[.agg #[.bool a0_0, .int .i64 a0_1, .int .i64 a0_2, .int .i64 a0_3], .slice A1 l1.length c1] w fun e w' => ∃ v0_ : Value, e = .returned (v0_) ∧ Kd.R k32 32 w' w.heap.size (fun _ => True) v0_ r ∧ Below w.heap.size w w' := by
 induction k using Nat.strongRecOn with
 | _ k ih =>
 intro a0_0 a0_1 a0_2 a0_3 A1 c1 l1 r w hr1 hc1 h
 cases k with
 | zero => exact absurd h (by simp [impl_without.f])
 | succ k =>
 simp only [impl_without.f] at h
 have hu32 := Try.underlying32
 have HR1 := Aside0.mk hr1
 have HC1 := Aside0.mk hc1
 clear hr1 hc1
 have HB := Aside0.mk (Below.refl w.heap.size w)
 have H : (impl_without.l0 k (([] : List (S32))) l1 (l1.length : Int) 0 a0_0 a0_1 a0_2 a0_3) = some r := h
 clear h
 obtain ⟨y269, hy269⟩ : ∃ y_ : List (S32), y_ = (([] : List (S32))) := ⟨_, rfl⟩
 replace H : (impl_without.l0 k y269 l1 (l1.length : Int) 0 a0_0 a0_1 a0_2 a0_3) = some r := by first | (rw [hy269]; with_reducible exact H) | (have H2_ := (Option.bind_some _ _).symm.trans H; rw [hy269]; with_reducible exact H2_) | (have H2_ := (Option.bind_some _ _).symm.trans H; with_reducible exact H2_) | with_reducible exact H | (rw [hy269]; exact H) | exact H
 have Ny269 := Aside0.mk hy269
 clear hy269
 have H' := Aside0.mk H
 clear H
 go_enter Try.func110, Try.ntmps110
 go_wp2_with (first | ((with_reducible refine gate_dst (N := 2) rfl ?_); refine box_event ?hg (N := 2) ?hd (cs := #[.bool a0_0, .int .i64 a0_1, .int .i64 a0_2, .int .i64 a0_3]) (t := 32) ?hr ?_; (case hd => rfl); (case hg => rfl); (case hr => first | (go_simp; done) | (go_simp; rfl)); intro gb268 hg w3 hbox hb; have n0_ := Aside0.mk (below_step (hb_ HB.out) hb); have n1_ := Aside0.mk (hbox); have n2_ := bg_ hg (below_size (hb_ HB.out)); have n3_ := bg_ hg (below_size (hb_ HB.out)); clear HB; have HB := n0_; have BK268 := n1_; have GW268 := n2_; have GE268 := n3_; clear n0_ n1_ n2_ n3_; clear hb hbox hg) | ((with_reducible refine gate_dst (N := 11) rfl ?_); refine Kd.R_lit k32 _ 32 ?hg (N := 11) ?hd (xs := ([] : List (S32))) (inner := []) (ok := fun _ => True) (okp := fun _ => True) ?hr ?hp (fun _ hk => hk) trivial (Below.refl _ _) (Nat.le_refl _) (by simp) ?_; (case hd => rfl); (case hg => rfl); (case hr => first | (go_simp; done) | (go_simp; rfl)); (case hp => exact (Reps.none _ _)); intro v270 w4 ho5 hb hg_ hnew_; clear hg_ hnew_; (first | rw [← Ny269.out] at ho5 | (simp only [Int.reduceToNat] at ho5; rw [← Ny269.out] at ho5)); have n0_ := Aside0.mk (Kd.R_lower (Kd.R_newB ho5 (g := gb268) (o := .cells #[.bool a0_0, .int .i64 a0_1, .int .i64 a0_2, .int .i64 a0_3] 32 (0, 0)) (bk_ BK268.out)) (below_size (hc_ HB.out GE268.out))); have n1_ := Aside0.mk (blk_below (bk_ BK268.out) hb); have n2_ := Aside0.mk (below_step (hc_ HB.out GE268.out) hb); clear BK268; clear HB; have HO271 := n0_; have BK268 := n1_; have HB := n2_; clear n0_ n1_ n2_; clear hb ho5))
 go_loopg [5, 14] k (fun kq v5 v14 w' => ∃ (x5_1 : List (S32)) (x14_1 : Int), v14 = .int .i64 x14_1 ∧ Aside0 (impl_without.l0 kq x5_1 l1 (l1.length : Int) x14_1 a0_0 a0_1 a0_2 a0_3 = some r) ∧ Aside0 (kq ≤ k) ∧ Aside0 (Kd.R k32 32 w' w.heap.size (fun k_ => k_ ≠ gb268) v5 x5_1) ∧ Aside0 (w'.heap[gb268]? = some (.cells #[.bool a0_0, .int .i64 a0_1, .int .i64 a0_2, .int .i64 a0_3] 32 (0, 0))) ∧ Aside0 (Below w.heap.size w w'))
 case atStart => exact ⟨(y269), (0), (by first | rfl | (simp; done) | (simp [*]; done)), H', ⟨Nat.le_refl _⟩, ⟨by (with_reducible repeat (first | apply Kd.R_alloc | apply Kd.R_drewN | apply Kd.R_drew)); exact Kd.R_mono HO271.out (fun _ hk => hk.2)⟩, ⟨by refine bk_ ?_; exact BK268.out⟩, ⟨hc_ HB.out GE268.out⟩⟩
 case round =>
  clear H'
  try clear c1
  try clear p2
  obtain ⟨x5_1, x14_1, rfl, HA, HK1, HO_5, BK268, HB⟩ := hrel
  cases gk with
  | zero => exact absurd HA.out (by simp [impl_without.l0])
  | succ k1 =>
   have H := HA.out
   clear HA
   simp only [impl_without.l0] at H
   by_cases c6 : x14_1 < (l1.length : Int)
   ·rw [if_pos c6] at H
    have c6b0 : decide (x14_1 < (l1.length : Int)) = true := decide_eq_true c6
    clear c6
    by_cases c7 : 0 ≤ x14_1
    ·rw [if_pos c7] at H
     have c7b0 : decide (0 ≤ x14_1) = true := decide_eq_true c7
     clear c7
     by_cases c8 : x14_1 < (l1.length : Int)
     ·rw [if_pos c8] at H
      have c8b0 : decide (x14_1 < (l1.length : Int)) = true := decide_eq_true c8
      clear c8
      replace H := Option.bind_eq_some_iff.mp H
      obtain ⟨t274, A90, H⟩ := H
      replace H : (if t274 = true then (some ([] : List (S32))) else ((impl_Within.f ((rd_T32 l1 x14_1).f0.f0) ((rd_T32 l1 x14_1).f0.f1) ((rd_T32 l1 x14_1).f0.f2) ((rd_T32 l1 x14_1).f1) a0_0 a0_1 a0_2 a0_3).bind fun t275 => (if t275 = true then (if x5_1.length < 4398046511104 then (impl_without.l0 k1 (x5_1 ++ [(⟨(⟨(rd_T32 l1 x14_1).f0.f0, (rd_T32 l1 x14_1).f0.f1, (rd_T32 l1 x14_1).f0.f2⟩ : S26), (rd_T32 l1 x14_1).f1⟩ : S32)]) l1 (l1.length : Int) (wrap64 (x14_1 + 1)) a0_0 a0_1 a0_2 a0_3) else (none)) else (impl_without.l0 k1 x5_1 l1 (l1.length : Int) (wrap64 (x14_1 + 1)) a0_0 a0_1 a0_2 a0_3)))) = some r := H
      have A9 := Aside0.mk A90
      clear A90
      by_cases c10 : t274 = true
      ·subst c10
       have H1 : (some ([] : List (S32))) = some r := by rw [if_pos rfl] at H; exact H
       clear H
       have H := H1
       clear H1
       obtain rfl := Option.some.inj H
       have p272 : 0 ≤ (x14_1 : Int) := of_decide_eq_true pa_
       have q272 : x14_1 < (l1.length : Int) := of_decide_eq_true pa_
       obtain ⟨ad272, e272, hx272_0, hx272_1, hx272_2, hx272_3⟩ := at_T32 HR1.out x14_1 p272 q272
       cases e272
       replace hx272_0 := (HB.out.cell (World.block_lt_of_cell? w _ hx272_0)).trans hx272_0
       replace hx272_1 := (HB.out.cell (World.block_lt_of_cell? w _ hx272_1)).trans hx272_1
       replace hx272_2 := (HB.out.cell (World.block_lt_of_cell? w _ hx272_2)).trans hx272_2
       replace hx272_3 := (HB.out.cell (World.block_lt_of_cell? w _ hx272_3)).trans hx272_3
       replace p272 := eq_true p272
       replace q272 := eq_true q272
       go_wp2_with (first | ((with_reducible refine gate_dst (N := 7) rfl ?_); refine box_event ?hg (N := 7) ?hd (cs := #[.bool false, .int .i64 0, .int .i64 0, .int .i64 0]) (t := 32) ?hr ?_; (case hd => rfl); (case hg => rfl); (case hr => first | (go_simp; done) | (go_simp; rfl)); intro gb273 hg w11 hbox hb; have n0_ := Aside0.mk (Kd.R_below (Kd.R_elderB (by (with_reducible repeat (first | apply Kd.R_alloc | apply Kd.R_drewN | apply Kd.R_drew)); exact HO_5.out) gb273 (Nat.le_of_eq hg.symm)) hb); have n1_ := Aside0.mk (blk_below (bk_ BK268.out) hb); have n2_ := Aside0.mk (below_step (hc_ HB.out GE268.out) hb); have n3_ := Aside0.mk (hbox); have n4_ := bg_ hg (below_size (hc_ HB.out GE268.out)); have n5_ := bg_ hg (below_size (hc_ HB.out GE268.out)); have n6_ := bn_ hg (blk_lt (bk_ BK268.out)); have n7_ := bm_ hg (blk_lt (bk_ BK268.out)); clear HO_5; clear BK268; clear HB; have HO_5 := n0_; have BK268 := n1_; have HB := n2_; have BK273 := n3_; have GW273 := n4_; have GE273 := n5_; have NB268_273 := n6_; have NB273_268 := n7_; clear n0_ n1_ n2_ n3_ n4_ n5_ n6_ n7_; clear hb hbox hg; have hnb12 := NB273_268.out; have hnc12 := NB268_273.out; obtain ⟨hcz13_0, hcz13_1, hcz13_2, hcz13_3, hfz13_0, hfz13_1, hfz13_2, hfz13_3⟩ := bc4_ BK273.out; obtain ⟨hcz14_0, hcz14_1, hcz14_2, hcz14_3, hfz14_0, hfz14_1, hfz14_2, hfz14_3⟩ := bc4_ BK268.out) | ((with_reducible refine gate_callee (f := 130) rfl ?_); refine goesL_ (some 20) rfl rfl Try.func130 (by kernel_rfl) rfl #[.agg #[.bool a0_0, .int .i64 a0_1, .int .i64 a0_2, .int .i64 a0_3], .agg #[.bool ((rd_T32 l1 x14_1).f0.f0), .int .i64 ((rd_T32 l1 x14_1).f0.f1), .int .i64 ((rd_T32 l1 x14_1).f0.f2), .int .i64 ((rd_T32 l1 x14_1).f1)]] rfl al_ ?_; (with_reducible refine (impl_Within.calls a0_0 a0_1 a0_2 a0_3 ((rd_T32 l1 x14_1).f0.f0) ((rd_T32 l1 x14_1).f0.f1) ((rd_T32 l1 x14_1).f0.f2) ((rd_T32 l1 x14_1).f1) true _ A9.out).mono ?_); rintro e w15 ⟨rfl, hb⟩; refine ⟨_, rfl, ?_⟩; have n0_ := Aside0.mk (Kd.R_below (by (with_reducible repeat (first | apply Kd.R_alloc | apply Kd.R_drewN | apply Kd.R_drew)); exact (Kd.R_mono (Kd.R_far (p := ⟨gb273, 3, none⟩) (Kd.R_far (p := ⟨gb273, 2, none⟩) (Kd.R_far (p := ⟨gb273, 1, none⟩) (Kd.R_far (p := ⟨gb273, 0, none⟩) (Kd.R_mono HO_5.out (fun k_ hk => (⟨hk, hk.2⟩ : _ ∧ k_ ≠ gb273))) (fun _ hk => hk.2) (.bool ((rd_T32 l1 x14_1).f0.f0))) (fun _ hk => hk.2) (.int .i64 ((rd_T32 l1 x14_1).f0.f1))) (fun _ hk => hk.2) (.int .i64 ((rd_T32 l1 x14_1).f0.f2))) (fun _ hk => hk.2) (.int .i64 ((rd_T32 l1 x14_1).f1))) (fun _ h_ => h_.1))) hb); have n1_ := Aside0.mk (blk_below (g := gb268) (o := .cells #[.bool a0_0, .int .i64 a0_1, .int .i64 a0_2, .int .i64 a0_3] 32 (0, 0)) (by refine bk_ ?_; refine blk_far ?_ NB268_273.out _; refine bk_ ?_; refine blk_far ?_ NB268_273.out _; refine bk_ ?_; refine blk_far ?_ NB268_273.out _; refine bk_ ?_; refine blk_far ?_ NB268_273.out _; refine bk_ ?_; exact BK268.out) hb); have n2_ := Aside0.mk (blk_below (g := gb273) (o := .cells #[.bool ((rd_T32 l1 x14_1).f0.f0), .int .i64 ((rd_T32 l1 x14_1).f0.f1), .int .i64 ((rd_T32 l1 x14_1).f0.f2), .int .i64 ((rd_T32 l1 x14_1).f1)] 32 (0, 0)) (by refine bk_ ?_; refine blk_put (cs := #[.bool ((rd_T32 l1 x14_1).f0.f0), .int .i64 ((rd_T32 l1 x14_1).f0.f1), .int .i64 ((rd_T32 l1 x14_1).f0.f2), .int .i64 0]) ?_ 3 _ rfl; refine bk_ ?_; refine blk_put (cs := #[.bool ((rd_T32 l1 x14_1).f0.f0), .int .i64 ((rd_T32 l1 x14_1).f0.f1), .int .i64 0, .int .i64 0]) ?_ 2 _ rfl; refine bk_ ?_; refine blk_put (cs := #[.bool ((rd_T32 l1 x14_1).f0.f0), .int .i64 0, .int .i64 0, .int .i64 0]) ?_ 1 _ rfl; refine bk_ ?_; refine blk_put (cs := #[.bool false, .int .i64 0, .int .i64 0, .int .i64 0]) ?_ 0 _ rfl; refine bk_ ?_; exact BK273.out) hb); have n3_ := Aside0.mk (below_step (hd_ HB.out GE268.out GE273.out) hb); clear HO_5; clear BK268; clear BK273; clear HB; have HO_5 := n0_; have BK268 := n1_; have BK273 := n2_; have HB := n3_; clear n0_ n1_ n2_ n3_; (try clear hb); (try clear hb2); (try clear hk); (try clear hi)))
       go_ret
       exact ⟨_, by first | rfl | (simp [errW_none, errW_some] <;> rfl) | (simp [*, errW_none, errW_some] <;> rfl), by first | exact Kd.R_nil _ _ _ _ _ | exact Kd.N_nil _ _ _ _ _ | exact Kd.V_nil _ _ _ _ _ | exact Kd.Q_nil _ _ _ _ _ | exact Kd.S_nil _ _ _ _ _, hd_ HB.out GE268.out GE273.out⟩
      ·replace c10 := Bool.eq_false_iff.mpr c10
       subst c10
       have H1 : ((impl_Within.f ((rd_T32 l1 x14_1).f0.f0) ((rd_T32 l1 x14_1).f0.f1) ((rd_T32 l1 x14_1).f0.f2) ((rd_T32 l1 x14_1).f1) a0_0 a0_1 a0_2 a0_3).bind fun t275 => (if t275 = true then (if x5_1.length < 4398046511104 then (impl_without.l0 k1 (x5_1 ++ [(⟨(⟨(rd_T32 l1 x14_1).f0.f0, (rd_T32 l1 x14_1).f0.f1, (rd_T32 l1 x14_1).f0.f2⟩ : S26), (rd_T32 l1 x14_1).f1⟩ : S32)]) l1 (l1.length : Int) (wrap64 (x14_1 + 1)) a0_0 a0_1 a0_2 a0_3) else (none)) else (impl_without.l0 k1 x5_1 l1 (l1.length : Int) (wrap64 (x14_1 + 1)) a0_0 a0_1 a0_2 a0_3))) = some r := by rw [if_neg (show ¬ (false = true) by decide)] at H; exact H
       clear H
       have H := H1
       clear H1
       replace H := Option.bind_eq_some_iff.mp H
       obtain ⟨t275, A160, H⟩ := H
       replace H : (if t275 = true then (if x5_1.length < 4398046511104 then (impl_without.l0 k1 (x5_1 ++ [(⟨(⟨(rd_T32 l1 x14_1).f0.f0, (rd_T32 l1 x14_1).f0.f1, (rd_T32 l1 x14_1).f0.f2⟩ : S26), (rd_T32 l1 x14_1).f1⟩ : S32)]) l1 (l1.length : Int) (wrap64 (x14_1 + 1)) a0_0 a0_1 a0_2 a0_3) else (none)) else (impl_without.l0 k1 x5_1 l1 (l1.length : Int) (wrap64 (x14_1 + 1)) a0_0 a0_1 a0_2 a0_3)) = some r := H
       have A16 := Aside0.mk A160
       clear A160
       by_cases c17 : t275 = true
       ·subst c17
        have H1 : (if x5_1.length < 4398046511104 then (impl_without.l0 k1 (x5_1 ++ [(⟨(⟨(rd_T32 l1 x14_1).f0.f0, (rd_T32 l1 x14_1).f0.f1, (rd_T32 l1 x14_1).f0.f2⟩ : S26), (rd_T32 l1 x14_1).f1⟩ : S32)]) l1 (l1.length : Int) (wrap64 (x14_1 + 1)) a0_0 a0_1 a0_2 a0_3) else (none)) = some r := by rw [if_pos rfl] at H; exact H
        clear H
        have H := H1
        clear H1
        by_cases c18 : x5_1.length < 4398046511104
        ·rw [if_pos c18] at H
         have LMc18 := Aside0.mk c18
         clear c18
         obtain ⟨y276, hy276⟩ : ∃ y_ : List (S32), y_ = (x5_1 ++ [(⟨(⟨(rd_T32 l1 x14_1).f0.f0, (rd_T32 l1 x14_1).f0.f1, (rd_T32 l1 x14_1).f0.f2⟩ : S26), (rd_T32 l1 x14_1).f1⟩ : S32)]) := ⟨_, rfl⟩
         replace H : (impl_without.l0 k1 y276 l1 (l1.length : Int) (wrap64 (x14_1 + 1)) a0_0 a0_1 a0_2 a0_3) = some r := by first | (rw [hy276]; with_reducible exact H) | (have H2_ := (Option.bind_some _ _).symm.trans H; rw [hy276]; with_reducible exact H2_) | (have H2_ := (Option.bind_some _ _).symm.trans H; with_reducible exact H2_) | with_reducible exact H | (rw [hy276]; exact H) | exact H
         have Ny276 := Aside0.mk hy276
         clear hy276
         have H' := Aside0.mk H
         clear H
         have p272 : 0 ≤ (x14_1 : Int) := of_decide_eq_true pa_
         have q272 : x14_1 < (l1.length : Int) := of_decide_eq_true pa_
         obtain ⟨ad272, e272, hx272_0, hx272_1, hx272_2, hx272_3⟩ := at_T32 HR1.out x14_1 p272 q272
         cases e272
         replace hx272_0 := (HB.out.cell (World.block_lt_of_cell? w _ hx272_0)).trans hx272_0
         replace hx272_1 := (HB.out.cell (World.block_lt_of_cell? w _ hx272_1)).trans hx272_1
         replace hx272_2 := (HB.out.cell (World.block_lt_of_cell? w _ hx272_2)).trans hx272_2
         replace hx272_3 := (HB.out.cell (World.block_lt_of_cell? w _ hx272_3)).trans hx272_3
         replace p272 := eq_true p272
         replace q272 := eq_true q272
         go_wp2_with (first | ((with_reducible refine gate_dst (N := 7) rfl ?_); refine box_event ?hg (N := 7) ?hd (cs := #[.bool false, .int .i64 0, .int .i64 0, .int .i64 0]) (t := 32) ?hr ?_; (case hd => rfl); (case hg => rfl); (case hr => first | (go_simp; done) | (go_simp; rfl)); intro gb273 hg w19 hbox hb; have n0_ := Aside0.mk (Kd.R_below (Kd.R_elderB (by (with_reducible repeat (first | apply Kd.R_alloc | apply Kd.R_drewN | apply Kd.R_drew)); exact HO_5.out) gb273 (Nat.le_of_eq hg.symm)) hb); have n1_ := Aside0.mk (blk_below (bk_ BK268.out) hb); have n2_ := Aside0.mk (below_step (hc_ HB.out GE268.out) hb); have n3_ := Aside0.mk (hbox); have n4_ := bg_ hg (below_size (hc_ HB.out GE268.out)); have n5_ := bg_ hg (below_size (hc_ HB.out GE268.out)); have n6_ := bn_ hg (blk_lt (bk_ BK268.out)); have n7_ := bm_ hg (blk_lt (bk_ BK268.out)); clear HO_5; clear BK268; clear HB; have HO_5 := n0_; have BK268 := n1_; have HB := n2_; have BK273 := n3_; have GW273 := n4_; have GE273 := n5_; have NB268_273 := n6_; have NB273_268 := n7_; clear n0_ n1_ n2_ n3_ n4_ n5_ n6_ n7_; clear hb hbox hg; have hnb20 := NB273_268.out; have hnc20 := NB268_273.out; obtain ⟨hcz21_0, hcz21_1, hcz21_2, hcz21_3, hfz21_0, hfz21_1, hfz21_2, hfz21_3⟩ := bc4_ BK273.out; obtain ⟨hcz22_0, hcz22_1, hcz22_2, hcz22_3, hfz22_0, hfz22_1, hfz22_2, hfz22_3⟩ := bc4_ BK268.out) | ((with_reducible refine gate_callee (f := 130) rfl ?_); refine goesL_ (some 20) rfl rfl Try.func130 (by kernel_rfl) rfl #[.agg #[.bool a0_0, .int .i64 a0_1, .int .i64 a0_2, .int .i64 a0_3], .agg #[.bool ((rd_T32 l1 x14_1).f0.f0), .int .i64 ((rd_T32 l1 x14_1).f0.f1), .int .i64 ((rd_T32 l1 x14_1).f0.f2), .int .i64 ((rd_T32 l1 x14_1).f1)]] rfl al_ ?_; (with_reducible refine (impl_Within.calls a0_0 a0_1 a0_2 a0_3 ((rd_T32 l1 x14_1).f0.f0) ((rd_T32 l1 x14_1).f0.f1) ((rd_T32 l1 x14_1).f0.f2) ((rd_T32 l1 x14_1).f1) false _ A9.out).mono ?_); rintro e w23 ⟨rfl, hb⟩; refine ⟨_, rfl, ?_⟩; have n0_ := Aside0.mk (Kd.R_below (by (with_reducible repeat (first | apply Kd.R_alloc | apply Kd.R_drewN | apply Kd.R_drew)); exact (Kd.R_mono (Kd.R_far (p := ⟨gb273, 3, none⟩) (Kd.R_far (p := ⟨gb273, 2, none⟩) (Kd.R_far (p := ⟨gb273, 1, none⟩) (Kd.R_far (p := ⟨gb273, 0, none⟩) (Kd.R_mono HO_5.out (fun k_ hk => (⟨hk, hk.2⟩ : _ ∧ k_ ≠ gb273))) (fun _ hk => hk.2) (.bool ((rd_T32 l1 x14_1).f0.f0))) (fun _ hk => hk.2) (.int .i64 ((rd_T32 l1 x14_1).f0.f1))) (fun _ hk => hk.2) (.int .i64 ((rd_T32 l1 x14_1).f0.f2))) (fun _ hk => hk.2) (.int .i64 ((rd_T32 l1 x14_1).f1))) (fun _ h_ => h_.1))) hb); have n1_ := Aside0.mk (blk_below (g := gb268) (o := .cells #[.bool a0_0, .int .i64 a0_1, .int .i64 a0_2, .int .i64 a0_3] 32 (0, 0)) (by refine bk_ ?_; refine blk_far ?_ NB268_273.out _; refine bk_ ?_; refine blk_far ?_ NB268_273.out _; refine bk_ ?_; refine blk_far ?_ NB268_273.out _; refine bk_ ?_; refine blk_far ?_ NB268_273.out _; refine bk_ ?_; exact BK268.out) hb); have n2_ := Aside0.mk (blk_below (g := gb273) (o := .cells #[.bool ((rd_T32 l1 x14_1).f0.f0), .int .i64 ((rd_T32 l1 x14_1).f0.f1), .int .i64 ((rd_T32 l1 x14_1).f0.f2), .int .i64 ((rd_T32 l1 x14_1).f1)] 32 (0, 0)) (by refine bk_ ?_; refine blk_put (cs := #[.bool ((rd_T32 l1 x14_1).f0.f0), .int .i64 ((rd_T32 l1 x14_1).f0.f1), .int .i64 ((rd_T32 l1 x14_1).f0.f2), .int .i64 0]) ?_ 3 _ rfl; refine bk_ ?_; refine blk_put (cs := #[.bool ((rd_T32 l1 x14_1).f0.f0), .int .i64 ((rd_T32 l1 x14_1).f0.f1), .int .i64 0, .int .i64 0]) ?_ 2 _ rfl; refine bk_ ?_; refine blk_put (cs := #[.bool ((rd_T32 l1 x14_1).f0.f0), .int .i64 0, .int .i64 0, .int .i64 0]) ?_ 1 _ rfl; refine bk_ ?_; refine blk_put (cs := #[.bool false, .int .i64 0, .int .i64 0, .int .i64 0]) ?_ 0 _ rfl; refine bk_ ?_; exact BK273.out) hb); have n3_ := Aside0.mk (below_step (hd_ HB.out GE268.out GE273.out) hb); clear HO_5; clear BK268; clear BK273; clear HB; have HO_5 := n0_; have BK268 := n1_; have BK273 := n2_; have HB := n3_; clear n0_ n1_ n2_ n3_; (try clear hb); (try clear hb2); (try clear hk); (try clear hi); obtain ⟨hcz24_0, hcz24_1, hcz24_2, hcz24_3, hfz24_0, hfz24_1, hfz24_2, hfz24_3⟩ := bc4_ BK273.out; obtain ⟨hcz25_0, hcz25_1, hcz25_2, hcz25_3, hfz25_0, hfz25_1, hfz25_2, hfz25_3⟩ := bc4_ BK268.out) | ((with_reducible refine gate_callee (f := 130) rfl ?_); refine goesL_ (some 23) rfl rfl Try.func130 (by kernel_rfl) rfl #[.agg #[.bool ((rd_T32 l1 x14_1).f0.f0), .int .i64 ((rd_T32 l1 x14_1).f0.f1), .int .i64 ((rd_T32 l1 x14_1).f0.f2), .int .i64 ((rd_T32 l1 x14_1).f1)], .agg #[.bool a0_0, .int .i64 a0_1, .int .i64 a0_2, .int .i64 a0_3]] rfl al_ ?_; (with_reducible refine (impl_Within.calls ((rd_T32 l1 x14_1).f0.f0) ((rd_T32 l1 x14_1).f0.f1) ((rd_T32 l1 x14_1).f0.f2) ((rd_T32 l1 x14_1).f1) a0_0 a0_1 a0_2 a0_3 true _ A16.out).mono ?_); rintro e w26 ⟨rfl, hb⟩; refine ⟨_, rfl, ?_⟩; have n0_ := Aside0.mk (Kd.R_below (by (with_reducible repeat (first | apply Kd.R_alloc | apply Kd.R_drewN | apply Kd.R_drew)); exact HO_5.out) hb); have n1_ := Aside0.mk (blk_below (bk_ BK268.out) hb); have n2_ := Aside0.mk (blk_below (bk_ BK273.out) hb); have n3_ := Aside0.mk (below_step (hd_ HB.out GE268.out GE273.out) hb); clear HO_5; clear BK268; clear BK273; clear HB; have HO_5 := n0_; have BK268 := n1_; have BK273 := n2_; have HB := n3_; clear n0_ n1_ n2_ n3_; (try clear hb); (try clear hb2); (try clear hk); (try clear hi); obtain ⟨hcz27_0, hcz27_1, hcz27_2, hcz27_3, hfz27_0, hfz27_1, hfz27_2, hfz27_3⟩ := bc4_ BK273.out) | ((with_reducible refine gate_builtin (b := .append) (xs := #[.tmp 24, .tmp 26]) rfl ?_); at_builtin; refine Kd.R_append k32 (w0 := w) w.heap.size rfl (.tmp 24) (.tmp 26) 70 32 (.agg #[(.bool false), (.int .i64 0), (.int .i64 0), (.int .i64 0)]) 32 rfl Try.underlying70 info32 rfl (by decide) (by omega) u5 x5_1 (⟨(⟨(rd_T32 l1 x14_1).f0.f0, (rd_T32 l1 x14_1).f0.f1, (rd_T32 l1 x14_1).f0.f2⟩ : S26), (rd_T32 l1 x14_1).f1⟩ : S32) [.bool ((rd_T32 l1 x14_1).f0.f0), .int .i64 ((rd_T32 l1 x14_1).f0.f1), .int .i64 ((rd_T32 l1 x14_1).f0.f2), .int .i64 ((rd_T32 l1 x14_1).f1)] (fun k_ => k_ ≠ gb268 ∧ k_ ≠ gb273) (fun _ => False) rfl rfl ?aP (fun _ hk => hk.elim) ?aF ?aO ?aB ?aS ?aL ?_; (case aP => exact k32_mkM _ _ _ (⟨(⟨(rd_T32 l1 x14_1).f0.f0, (rd_T32 l1 x14_1).f0.f1, (rd_T32 l1 x14_1).f0.f2⟩ : S26), (rd_T32 l1 x14_1).f1⟩ : S32)); (case aB => exact (hd_ HB.out GE268.out GE273.out)); (case aF => exact (fun k_ hk => ⟨Kd.freshB (g := gb268) (o := .cells #[.bool a0_0, .int .i64 a0_1, .int .i64 a0_2, .int .i64 a0_3] 32 (0, 0)) (bk_ BK268.out) k_ hk, Kd.freshB (g := gb273) (o := .cells #[.bool ((rd_T32 l1 x14_1).f0.f0), .int .i64 ((rd_T32 l1 x14_1).f0.f1), .int .i64 ((rd_T32 l1 x14_1).f0.f2), .int .i64 ((rd_T32 l1 x14_1).f1)] 32 (0, 0)) (bk_ BK273.out) k_ hk⟩)); (case aO => exact (by (with_reducible repeat (first | apply Kd.R_alloc | apply Kd.R_drewN | apply Kd.R_drew)); exact HO_5.out)); (case aS => exact (below_size (hd_ HB.out GE268.out GE273.out))); (case aL => have := LMc18.out; omega); intro v277 w28 ho hb hg hat; rw [← Ny276.out] at ho; have n0_ := Aside0.mk (blk_grown (g := gb268) (o := .cells #[.bool a0_0, .int .i64 a0_1, .int .i64 a0_2, .int .i64 a0_3] 32 (0, 0)) (bk_ BK268.out) hg (Kd.R_away HO_5.out (fun _ hk => hk.1))); have n1_ := Aside0.mk (blk_grown (g := gb273) (o := .cells #[.bool ((rd_T32 l1 x14_1).f0.f0), .int .i64 ((rd_T32 l1 x14_1).f0.f1), .int .i64 ((rd_T32 l1 x14_1).f0.f2), .int .i64 ((rd_T32 l1 x14_1).f1)] 32 (0, 0)) (bk_ BK273.out) hg (Kd.R_away HO_5.out (fun _ hk => hk.2))); have n2_ := Aside0.mk (hb); have n3_ := Aside0.mk (ho); clear BK268; clear BK273; clear HB; clear HO_5; have BK268 := n0_; have BK273 := n1_; have HB := n2_; have HO278 := n3_; clear n0_ n1_ n2_ n3_; clear ho hb hg hat))
         go_roundg k1
         case measure => have := HK1.out; omega
         case rel => exact ⟨(y276), (wrap64 (x14_1 + 1)), (by first | rfl | (simp; done) | (simp [*]; done)), H', ⟨by have := HK1.out; omega⟩, ⟨by (with_reducible repeat (first | apply Kd.R_alloc | apply Kd.R_drewN | apply Kd.R_drew)); exact Kd.R_mono HO278.out (fun _ hk => hk.1)⟩, ⟨by refine bk_ ?_; exact BK268.out⟩, ⟨hd_ HB.out GE268.out GE273.out⟩⟩
        ·rw [if_neg c18] at H
         exact absurd H (by simp)
       ·replace c17 := Bool.eq_false_iff.mpr c17
        subst c17
        have H1 : (impl_without.l0 k1 x5_1 l1 (l1.length : Int) (wrap64 (x14_1 + 1)) a0_0 a0_1 a0_2 a0_3) = some r := by rw [if_neg (show ¬ (false = true) by decide)] at H; exact H
        clear H
        have H := H1
        clear H1
        have H' := Aside0.mk H
        clear H
        have p272 : 0 ≤ (x14_1 : Int) := of_decide_eq_true pa_
        have q272 : x14_1 < (l1.length : Int) := of_decide_eq_true pa_
        obtain ⟨ad272, e272, hx272_0, hx272_1, hx272_2, hx272_3⟩ := at_T32 HR1.out x14_1 p272 q272
        cases e272
        replace hx272_0 := (HB.out.cell (World.block_lt_of_cell? w _ hx272_0)).trans hx272_0
        replace hx272_1 := (HB.out.cell (World.block_lt_of_cell? w _ hx272_1)).trans hx272_1
        replace hx272_2 := (HB.out.cell (World.block_lt_of_cell? w _ hx272_2)).trans hx272_2
        replace hx272_3 := (HB.out.cell (World.block_lt_of_cell? w _ hx272_3)).trans hx272_3
        replace p272 := eq_true p272
        replace q272 := eq_true q272
        go_wp2_with (first | ((with_reducible refine gate_dst (N := 7) rfl ?_); refine box_event ?hg (N := 7) ?hd (cs := #[.bool false, .int .i64 0, .int .i64 0, .int .i64 0]) (t := 32) ?hr ?_; (case hd => rfl); (case hg => rfl); (case hr => first | (go_simp; done) | (go_simp; rfl)); intro gb273 hg w29 hbox hb; have n0_ := Aside0.mk (Kd.R_below (Kd.R_elderB (by (with_reducible repeat (first | apply Kd.R_alloc | apply Kd.R_drewN | apply Kd.R_drew)); exact HO_5.out) gb273 (Nat.le_of_eq hg.symm)) hb); have n1_ := Aside0.mk (blk_below (bk_ BK268.out) hb); have n2_ := Aside0.mk (below_step (hc_ HB.out GE268.out) hb); have n3_ := Aside0.mk (hbox); have n4_ := bg_ hg (below_size (hc_ HB.out GE268.out)); have n5_ := bg_ hg (below_size (hc_ HB.out GE268.out)); have n6_ := bn_ hg (blk_lt (bk_ BK268.out)); have n7_ := bm_ hg (blk_lt (bk_ BK268.out)); clear HO_5; clear BK268; clear HB; have HO_5 := n0_; have BK268 := n1_; have HB := n2_; have BK273 := n3_; have GW273 := n4_; have GE273 := n5_; have NB268_273 := n6_; have NB273_268 := n7_; clear n0_ n1_ n2_ n3_ n4_ n5_ n6_ n7_; clear hb hbox hg; have hnb30 := NB273_268.out; have hnc30 := NB268_273.out; obtain ⟨hcz31_0, hcz31_1, hcz31_2, hcz31_3, hfz31_0, hfz31_1, hfz31_2, hfz31_3⟩ := bc4_ BK273.out; obtain ⟨hcz32_0, hcz32_1, hcz32_2, hcz32_3, hfz32_0, hfz32_1, hfz32_2, hfz32_3⟩ := bc4_ BK268.out) | ((with_reducible refine gate_callee (f := 130) rfl ?_); refine goesL_ (some 20) rfl rfl Try.func130 (by kernel_rfl) rfl #[.agg #[.bool a0_0, .int .i64 a0_1, .int .i64 a0_2, .int .i64 a0_3], .agg #[.bool ((rd_T32 l1 x14_1).f0.f0), .int .i64 ((rd_T32 l1 x14_1).f0.f1), .int .i64 ((rd_T32 l1 x14_1).f0.f2), .int .i64 ((rd_T32 l1 x14_1).f1)]] rfl al_ ?_; (with_reducible refine (impl_Within.calls a0_0 a0_1 a0_2 a0_3 ((rd_T32 l1 x14_1).f0.f0) ((rd_T32 l1 x14_1).f0.f1) ((rd_T32 l1 x14_1).f0.f2) ((rd_T32 l1 x14_1).f1) false _ A9.out).mono ?_); rintro e w33 ⟨rfl, hb⟩; refine ⟨_, rfl, ?_⟩; have n0_ := Aside0.mk (Kd.R_below (by (with_reducible repeat (first | apply Kd.R_alloc | apply Kd.R_drewN | apply Kd.R_drew)); exact (Kd.R_mono (Kd.R_far (p := ⟨gb273, 3, none⟩) (Kd.R_far (p := ⟨gb273, 2, none⟩) (Kd.R_far (p := ⟨gb273, 1, none⟩) (Kd.R_far (p := ⟨gb273, 0, none⟩) (Kd.R_mono HO_5.out (fun k_ hk => (⟨hk, hk.2⟩ : _ ∧ k_ ≠ gb273))) (fun _ hk => hk.2) (.bool ((rd_T32 l1 x14_1).f0.f0))) (fun _ hk => hk.2) (.int .i64 ((rd_T32 l1 x14_1).f0.f1))) (fun _ hk => hk.2) (.int .i64 ((rd_T32 l1 x14_1).f0.f2))) (fun _ hk => hk.2) (.int .i64 ((rd_T32 l1 x14_1).f1))) (fun _ h_ => h_.1))) hb); have n1_ := Aside0.mk (blk_below (g := gb268) (o := .cells #[.bool a0_0, .int .i64 a0_1, .int .i64 a0_2, .int .i64 a0_3] 32 (0, 0)) (by refine bk_ ?_; refine blk_far ?_ NB268_273.out _; refine bk_ ?_; refine blk_far ?_ NB268_273.out _; refine bk_ ?_; refine blk_far ?_ NB268_273.out _; refine bk_ ?_; refine blk_far ?_ NB268_273.out _; refine bk_ ?_; exact BK268.out) hb); have n2_ := Aside0.mk (blk_below (g := gb273) (o := .cells #[.bool ((rd_T32 l1 x14_1).f0.f0), .int .i64 ((rd_T32 l1 x14_1).f0.f1), .int .i64 ((rd_T32 l1 x14_1).f0.f2), .int .i64 ((rd_T32 l1 x14_1).f1)] 32 (0, 0)) (by refine bk_ ?_; refine blk_put (cs := #[.bool ((rd_T32 l1 x14_1).f0.f0), .int .i64 ((rd_T32 l1 x14_1).f0.f1), .int .i64 ((rd_T32 l1 x14_1).f0.f2), .int .i64 0]) ?_ 3 _ rfl; refine bk_ ?_; refine blk_put (cs := #[.bool ((rd_T32 l1 x14_1).f0.f0), .int .i64 ((rd_T32 l1 x14_1).f0.f1), .int .i64 0, .int .i64 0]) ?_ 2 _ rfl; refine bk_ ?_; refine blk_put (cs := #[.bool ((rd_T32 l1 x14_1).f0.f0), .int .i64 0, .int .i64 0, .int .i64 0]) ?_ 1 _ rfl; refine bk_ ?_; refine blk_put (cs := #[.bool false, .int .i64 0, .int .i64 0, .int .i64 0]) ?_ 0 _ rfl; refine bk_ ?_; exact BK273.out) hb); have n3_ := Aside0.mk (below_step (hd_ HB.out GE268.out GE273.out) hb); clear HO_5; clear BK268; clear BK273; clear HB; have HO_5 := n0_; have BK268 := n1_; have BK273 := n2_; have HB := n3_; clear n0_ n1_ n2_ n3_; (try clear hb); (try clear hb2); (try clear hk); (try clear hi); obtain ⟨hcz34_0, hcz34_1, hcz34_2, hcz34_3, hfz34_0, hfz34_1, hfz34_2, hfz34_3⟩ := bc4_ BK273.out; obtain ⟨hcz35_0, hcz35_1, hcz35_2, hcz35_3, hfz35_0, hfz35_1, hfz35_2, hfz35_3⟩ := bc4_ BK268.out) | ((with_reducible refine gate_callee (f := 130) rfl ?_); refine goesL_ (some 23) rfl rfl Try.func130 (by kernel_rfl) rfl #[.agg #[.bool ((rd_T32 l1 x14_1).f0.f0), .int .i64 ((rd_T32 l1 x14_1).f0.f1), .int .i64 ((rd_T32 l1 x14_1).f0.f2), .int .i64 ((rd_T32 l1 x14_1).f1)], .agg #[.bool a0_0, .int .i64 a0_1, .int .i64 a0_2, .int .i64 a0_3]] rfl al_ ?_; (with_reducible refine (impl_Within.calls ((rd_T32 l1 x14_1).f0.f0) ((rd_T32 l1 x14_1).f0.f1) ((rd_T32 l1 x14_1).f0.f2) ((rd_T32 l1 x14_1).f1) a0_0 a0_1 a0_2 a0_3 false _ A16.out).mono ?_); rintro e w36 ⟨rfl, hb⟩; refine ⟨_, rfl, ?_⟩; have n0_ := Aside0.mk (Kd.R_below (by (with_reducible repeat (first | apply Kd.R_alloc | apply Kd.R_drewN | apply Kd.R_drew)); exact HO_5.out) hb); have n1_ := Aside0.mk (blk_below (bk_ BK268.out) hb); have n2_ := Aside0.mk (blk_below (bk_ BK273.out) hb); have n3_ := Aside0.mk (below_step (hd_ HB.out GE268.out GE273.out) hb); clear HO_5; clear BK268; clear BK273; clear HB; have HO_5 := n0_; have BK268 := n1_; have BK273 := n2_; have HB := n3_; clear n0_ n1_ n2_ n3_; (try clear hb); (try clear hb2); (try clear hk); (try clear hi)))
        go_roundg k1
        case measure => have := HK1.out; omega
        case rel => exact ⟨(x5_1), (wrap64 (x14_1 + 1)), (by first | rfl | (simp; done) | (simp [*]; done)), H', ⟨by have := HK1.out; omega⟩, ⟨by (with_reducible repeat (first | apply Kd.R_alloc | apply Kd.R_drewN | apply Kd.R_drew)); exact Kd.R_mono HO_5.out (fun _ hk => hk.1)⟩, ⟨by refine bk_ ?_; exact BK268.out⟩, ⟨hd_ HB.out GE268.out GE273.out⟩⟩
     ·rw [if_neg c8] at H
      exact absurd H (by simp)
    ·rw [if_neg c7] at H
     exact absurd H (by simp)
   ·rw [if_neg c6] at H
    have c6b0 : decide (x14_1 < (l1.length : Int)) = false := decide_eq_false c6
    clear c6
    by_cases c37 : (x5_1.length : Int) = 0
    ·rw [if_pos c37] at H
     have c37b0 : ((x5_1.length : Int) == 0) = true := beq_iff_eq.mpr c37
     have c37b1 : ((x5_1.length : Int) != 0) = false := bne_eq_false_iff_eq.mpr c37
     clear c37
     obtain ⟨y279, hy279⟩ : ∃ y_ : List (S32), y_ = (([(⟨(⟨a0_0, a0_1, a0_2⟩ : S26), a0_3⟩ : S32)] : List (S32))) := ⟨_, rfl⟩
     replace H : (some y279) = some r := by first | (rw [hy279]; with_reducible exact H) | (have H2_ := (Option.bind_some _ _).symm.trans H; rw [hy279]; with_reducible exact H2_) | (have H2_ := (Option.bind_some _ _).symm.trans H; with_reducible exact H2_) | with_reducible exact H | (rw [hy279]; exact H) | exact H
     have Ny279 := Aside0.mk hy279
     clear hy279
     obtain rfl := Option.some.inj H
     obtain ⟨Ao38, co38, eo38⟩ := Kd.R_slice HO_5.out
     subst eo38
     obtain ⟨hcz39_0, hcz39_1, hcz39_2, hcz39_3, hfz39_0, hfz39_1, hfz39_2, hfz39_3⟩ := bc4_ BK268.out
     go_wp2_with (first | ((with_reducible refine gate_dst (N := 33) rfl ?_); refine Kd.R_lit k32 _ 32 ?hg (N := 33) ?hd (xs := ([(⟨(⟨a0_0, a0_1, a0_2⟩ : S26), a0_3⟩ : S32)] : List (S32))) (inner := [.bool a0_0, .int .i64 a0_1, .int .i64 a0_2, .int .i64 a0_3]) (ok := fun _ => True) (okp := fun _ => True) ?hr ?hp (fun _ hk => hk) trivial (Below.refl _ _) (Nat.le_refl _) (by simp) ?_; (case hd => rfl); (case hg => rfl); (case hr => first | (go_simp; done) | (go_simp; rfl)); (case hp => exact (Reps.c4 (show Kd.M k32 _ _ _ (⟨(⟨a0_0, a0_1, a0_2⟩ : S26), a0_3⟩ : S32) [.bool a0_0, .int .i64 a0_1, .int .i64 a0_2, .int .i64 a0_3] from (k32_mkM _ _ _ (⟨(⟨a0_0, a0_1, a0_2⟩ : S26), a0_3⟩ : S32) )) (Reps.none _ _))); intro v280 w40 ho41 hb hg_ hnew_; clear hg_ hnew_; (first | rw [← Ny279.out] at ho41 | (simp only [Int.reduceToNat] at ho41; rw [← Ny279.out] at ho41)); have n0_ := Aside0.mk (Kd.R_elder' (by (with_reducible repeat (first | apply Kd.R_alloc | apply Kd.R_drewN | apply Kd.R_drew)); exact HO_5.out) (Kd.R_base ho41) hb); have n1_ := Aside0.mk (Kd.R_lower (Kd.R_newB (Kd.R_new' ho41 (Kd.R_lt (by (with_reducible repeat (first | apply Kd.R_alloc | apply Kd.R_drewN | apply Kd.R_drew)); exact HO_5.out))) (g := gb268) (o := .cells #[.bool a0_0, .int .i64 a0_1, .int .i64 a0_2, .int .i64 a0_3] 32 (0, 0)) (bk_ BK268.out)) (below_size (hc_ HB.out GE268.out))); have n2_ := Aside0.mk (blk_below (bk_ BK268.out) hb); have n3_ := Aside0.mk (below_step (hc_ HB.out GE268.out) hb); clear HO_5; clear BK268; clear HB; have HO_5 := n0_; have HO281 := n1_; have BK268 := n2_; have HB := n3_; clear n0_ n1_ n2_ n3_; clear hb ho41))
     go_ret
     exact ⟨_, by first | rfl | (simp [errW_none, errW_some] <;> rfl) | (simp [*, errW_none, errW_some] <;> rfl), by (with_reducible repeat (first | apply Kd.R_alloc | apply Kd.R_drewN | apply Kd.R_drew)); exact Kd.R_mono HO281.out (fun _ hk => trivial), hc_ HB.out GE268.out⟩
    ·rw [if_neg c37] at H
     have c37b0 : ((x5_1.length : Int) == 0) = false := beq_eq_false_iff_ne.mpr c37
     have c37b1 : ((x5_1.length : Int) != 0) = true := bne_iff_ne.mpr c37
     have c37b2 : ¬ (x5_1 = []) := fun h_ => c37 (by rw [h_]; rfl)
     replace H := Option.bind_eq_some_iff.mp H
     obtain ⟨⟨t282, t283, t284, t285, t286, t287, t288, t289, t290⟩, A420, H⟩ := H
     replace H : ((impl_without.f k1 t282 t283 t284 t285 x5_1).bind fun t293 => ((impl_without.f k1 t286 t287 t288 t289 x5_1).bind fun t296 => (if t293.length + t296.length < 4398046511104 then (some (t293 ++ t296)) else (none)))) = some r := H
     have A42 := Aside0.mk A420
     clear A420
     replace H := Option.bind_eq_some_iff.mp H
     obtain ⟨t293, A430, H⟩ := H
     replace H : ((impl_without.f k1 t286 t287 t288 t289 x5_1).bind fun t296 => (if t293.length + t296.length < 4398046511104 then (some (t293 ++ t296)) else (none))) = some r := H
     have A43 := Aside0.mk A430
     clear A430
     replace H := Option.bind_eq_some_iff.mp H
     obtain ⟨t296, A440, H⟩ := H
     replace H : (if t293.length + t296.length < 4398046511104 then (some (t293 ++ t296)) else (none)) = some r := H
     have A44 := Aside0.mk A440
     clear A440
     by_cases c45 : t293.length + t296.length < 4398046511104
     ·rw [if_pos c45] at H
      have LMc45 := Aside0.mk c45
      clear c45
      obtain ⟨y299, hy299⟩ : ∃ y_ : List (S32), y_ = (t293 ++ t296) := ⟨_, rfl⟩
      replace H : (some y299) = some r := by first | (rw [hy299]; with_reducible exact H) | (have H2_ := (Option.bind_some _ _).symm.trans H; rw [hy299]; with_reducible exact H2_) | (have H2_ := (Option.bind_some _ _).symm.trans H; with_reducible exact H2_) | with_reducible exact H | (rw [hy299]; exact H) | exact H
      have Ny299 := Aside0.mk hy299
      clear hy299
      obtain rfl := Option.some.inj H
      obtain ⟨Ao46, co46, eo46⟩ := Kd.R_slice HO_5.out
      subst eo46
      obtain ⟨hcz47_0, hcz47_1, hcz47_2, hcz47_3, hfz47_0, hfz47_1, hfz47_2, hfz47_3⟩ := bc4_ BK268.out
      try go_wp2_with (first | ((with_reducible refine gate_callee (f := 28) rfl ?_); refine goesL_ (some 36) rfl rfl Try.func28 (by kernel_rfl) rfl #[.agg #[.bool a0_0, .int .i64 a0_1, .int .i64 a0_2, .int .i64 a0_3]] rfl al_ ?_; (with_reducible refine (impl_Halves.calls a0_0 a0_1 a0_2 a0_3 t282 t283 t284 t285 t286 t287 t288 t289 t290 _ A42.out).mono ?_); rintro e w48 ⟨rfl, hb⟩; refine ⟨_, rfl, ?_⟩; have n0_ := Aside0.mk (Kd.R_below (by (with_reducible repeat (first | apply Kd.R_alloc | apply Kd.R_drewN | apply Kd.R_drew)); exact HO_5.out) hb); have n1_ := Aside0.mk (blk_below (bk_ BK268.out) hb); have n2_ := Aside0.mk (below_step (hc_ HB.out GE268.out) hb); clear HO_5; clear BK268; clear HB; have HO_5 := n0_; have BK268 := n1_; have HB := n2_; clear n0_ n1_ n2_; (try clear hb); (try clear hb2); (try clear hk); (try clear hi)) | ((with_reducible refine gate_dst (N := 8) rfl ?_); refine box_event ?hg (N := 8) ?hd (cs := #[.bool false, .int .i64 0, .int .i64 0, .int .i64 0]) (t := 32) ?hr ?_; (case hd => rfl); (case hg => rfl); (case hr => first | (go_simp; done) | (go_simp; rfl)); intro gb291 hg w49 hbox hb; have n0_ := Aside0.mk (Kd.R_below (Kd.R_elderB (by (with_reducible repeat (first | apply Kd.R_alloc | apply Kd.R_drewN | apply Kd.R_drew)); exact HO_5.out) gb291 (Nat.le_of_eq hg.symm)) hb); have n1_ := Aside0.mk (blk_below (bk_ BK268.out) hb); have n2_ := Aside0.mk (below_step (hc_ HB.out GE268.out) hb); have n3_ := Aside0.mk (hbox); have n4_ := bg_ hg (below_size (hc_ HB.out GE268.out)); have n5_ := bg_ hg (below_size (hc_ HB.out GE268.out)); have n6_ := bn_ hg (blk_lt (bk_ BK268.out)); have n7_ := bm_ hg (blk_lt (bk_ BK268.out)); clear HO_5; clear BK268; clear HB; have HO_5 := n0_; have BK268 := n1_; have HB := n2_; have BK291 := n3_; have GW291 := n4_; have GE291 := n5_; have NB268_291 := n6_; have NB291_268 := n7_; clear n0_ n1_ n2_ n3_ n4_ n5_ n6_ n7_; clear hb hbox hg) | ((with_reducible refine gate_dst (N := 9) rfl ?_); refine box_event ?hg (N := 9) ?hd (cs := #[.bool false, .int .i64 0, .int .i64 0, .int .i64 0]) (t := 32) ?hr ?_; (case hd => rfl); (case hg => rfl); (case hr => first | (go_simp; done) | (go_simp; rfl)); intro gb292 hg w50 hbox hb; have n0_ := Aside0.mk (Kd.R_below (Kd.R_elderB (by (with_reducible repeat (first | apply Kd.R_alloc | apply Kd.R_drewN | apply Kd.R_drew)); exact HO_5.out) gb292 (Nat.le_of_eq hg.symm)) hb); have n1_ := Aside0.mk (blk_below (bk_ BK268.out) hb); have n2_ := Aside0.mk (blk_below (bk_ BK291.out) hb); have n3_ := Aside0.mk (below_step (hd_ HB.out GE268.out GE291.out) hb); have n4_ := Aside0.mk (hbox); have n5_ := bg_ hg (below_size (hd_ HB.out GE268.out GE291.out)); have n6_ := bg_ hg (below_size (hd_ HB.out GE268.out GE291.out)); have n7_ := bn_ hg (blk_lt (bk_ BK268.out)); have n8_ := bm_ hg (blk_lt (bk_ BK268.out)); have n9_ := bn_ hg (blk_lt (bk_ BK291.out)); have n10_ := bm_ hg (blk_lt (bk_ BK291.out)); clear HO_5; clear BK268; clear BK291; clear HB; have HO_5 := n0_; have BK268 := n1_; have BK291 := n2_; have HB := n3_; have BK292 := n4_; have GW292 := n5_; have GE292 := n6_; have NB268_292 := n7_; have NB292_268 := n8_; have NB291_292 := n9_; have NB292_291 := n10_; clear n0_ n1_ n2_ n3_ n4_ n5_ n6_ n7_ n8_ n9_ n10_; clear hb hbox hg; have hnb51 := NB291_268.out; have hnc51 := NB268_291.out; have hnb52 := NB291_292.out; have hnc52 := NB292_291.out; obtain ⟨hcz53_0, hcz53_1, hcz53_2, hcz53_3, hfz53_0, hfz53_1, hfz53_2, hfz53_3⟩ := bc4_ BK291.out; have hnb54 := NB292_268.out; have hnc54 := NB268_292.out; obtain ⟨hcz55_0, hcz55_1, hcz55_2, hcz55_3, hfz55_0, hfz55_1, hfz55_2, hfz55_3⟩ := bc4_ BK292.out))
      have n0_ : Aside0 (Kd.R k32 32 ((((((((w50.setCell ⟨gb291, 0, none⟩ (.bool t282)).setCell ⟨gb291, 1, none⟩ (.int .i64 t283)).setCell ⟨gb291, 2, none⟩ (.int .i64 t284)).setCell ⟨gb291, 3, none⟩ (.int .i64 t285)).setCell ⟨gb292, 0, none⟩ (.bool t286)).setCell ⟨gb292, 1, none⟩ (.int .i64 t287)).setCell ⟨gb292, 2, none⟩ (.int .i64 t288)).setCell ⟨gb292, 3, none⟩ (.int .i64 t289)) w.heap.size (fun k_ => k_ ≠ gb268 ∧ k_ ≠ gb291 ∧ k_ ≠ gb292) (.slice Ao46 x5_1.length co46) x5_1) := ⟨by (with_reducible repeat (first | apply Kd.R_alloc | apply Kd.R_drewN | apply Kd.R_drew)); exact Kd.R_mono (Kd.R_far (p := ⟨gb292, 3, none⟩) (Kd.R_far (p := ⟨gb292, 2, none⟩) (Kd.R_far (p := ⟨gb292, 1, none⟩) (Kd.R_far (p := ⟨gb292, 0, none⟩) (Kd.R_far (p := ⟨gb291, 3, none⟩) (Kd.R_far (p := ⟨gb291, 2, none⟩) (Kd.R_far (p := ⟨gb291, 1, none⟩) (Kd.R_far (p := ⟨gb291, 0, none⟩) (Kd.R_mono (Kd.R_mono HO_5.out (fun k_ hk => (⟨hk, hk.1.2⟩ : _ ∧ k_ ≠ gb291))) (fun k_ hk => (⟨hk, hk.1.2⟩ : _ ∧ k_ ≠ gb292))) (fun _ hk => hk.1.2) (.bool t282)) (fun _ hk => hk.1.2) (.int .i64 t283)) (fun _ hk => hk.1.2) (.int .i64 t284)) (fun _ hk => hk.1.2) (.int .i64 t285)) (fun _ hk => hk.2) (.bool t286)) (fun _ hk => hk.2) (.int .i64 t287)) (fun _ hk => hk.2) (.int .i64 t288)) (fun _ hk => hk.2) (.int .i64 t289)) (fun _ hk => ⟨hk.1.1.1.1, ⟨hk.1.1.1.2, hk.1.1.2⟩⟩)⟩
      have n1_ : Aside0 (((((((((w50.setCell ⟨gb291, 0, none⟩ (.bool t282)).setCell ⟨gb291, 1, none⟩ (.int .i64 t283)).setCell ⟨gb291, 2, none⟩ (.int .i64 t284)).setCell ⟨gb291, 3, none⟩ (.int .i64 t285)).setCell ⟨gb292, 0, none⟩ (.bool t286)).setCell ⟨gb292, 1, none⟩ (.int .i64 t287)).setCell ⟨gb292, 2, none⟩ (.int .i64 t288)).setCell ⟨gb292, 3, none⟩ (.int .i64 t289)).heap[gb268]? = some (.cells #[.bool a0_0, .int .i64 a0_1, .int .i64 a0_2, .int .i64 a0_3] 32 (0, 0))) := ⟨by refine bk_ ?_; refine blk_far ?_ NB268_292.out _; refine bk_ ?_; refine blk_far ?_ NB268_292.out _; refine bk_ ?_; refine blk_far ?_ NB268_292.out _; refine bk_ ?_; refine blk_far ?_ NB268_292.out _; refine bk_ ?_; refine blk_far ?_ NB268_291.out _; refine bk_ ?_; refine blk_far ?_ NB268_291.out _; refine bk_ ?_; refine blk_far ?_ NB268_291.out _; refine bk_ ?_; refine blk_far ?_ NB268_291.out _; refine bk_ ?_; exact BK268.out⟩
      have n2_ : Aside0 (((((((((w50.setCell ⟨gb291, 0, none⟩ (.bool t282)).setCell ⟨gb291, 1, none⟩ (.int .i64 t283)).setCell ⟨gb291, 2, none⟩ (.int .i64 t284)).setCell ⟨gb291, 3, none⟩ (.int .i64 t285)).setCell ⟨gb292, 0, none⟩ (.bool t286)).setCell ⟨gb292, 1, none⟩ (.int .i64 t287)).setCell ⟨gb292, 2, none⟩ (.int .i64 t288)).setCell ⟨gb292, 3, none⟩ (.int .i64 t289)).heap[gb291]? = some (.cells #[.bool t282, .int .i64 t283, .int .i64 t284, .int .i64 t285] 32 (0, 0))) := ⟨by refine bk_ ?_; refine blk_far ?_ NB291_292.out _; refine bk_ ?_; refine blk_far ?_ NB291_292.out _; refine bk_ ?_; refine blk_far ?_ NB291_292.out _; refine bk_ ?_; refine blk_far ?_ NB291_292.out _; refine bk_ ?_; refine blk_put (cs := #[.bool t282, .int .i64 t283, .int .i64 t284, .int .i64 0]) ?_ 3 _ rfl; refine bk_ ?_; refine blk_put (cs := #[.bool t282, .int .i64 t283, .int .i64 0, .int .i64 0]) ?_ 2 _ rfl; refine bk_ ?_; refine blk_put (cs := #[.bool t282, .int .i64 0, .int .i64 0, .int .i64 0]) ?_ 1 _ rfl; refine bk_ ?_; refine blk_put (cs := #[.bool false, .int .i64 0, .int .i64 0, .int .i64 0]) ?_ 0 _ rfl; refine bk_ ?_; exact BK291.out⟩
      have n3_ : Aside0 (((((((((w50.setCell ⟨gb291, 0, none⟩ (.bool t282)).setCell ⟨gb291, 1, none⟩ (.int .i64 t283)).setCell ⟨gb291, 2, none⟩ (.int .i64 t284)).setCell ⟨gb291, 3, none⟩ (.int .i64 t285)).setCell ⟨gb292, 0, none⟩ (.bool t286)).setCell ⟨gb292, 1, none⟩ (.int .i64 t287)).setCell ⟨gb292, 2, none⟩ (.int .i64 t288)).setCell ⟨gb292, 3, none⟩ (.int .i64 t289)).heap[gb292]? = some (.cells #[.bool t286, .int .i64 t287, .int .i64 t288, .int .i64 t289] 32 (0, 0))) := ⟨by refine bk_ ?_; refine blk_put (cs := #[.bool t286, .int .i64 t287, .int .i64 t288, .int .i64 0]) ?_ 3 _ rfl; refine bk_ ?_; refine blk_put (cs := #[.bool t286, .int .i64 t287, .int .i64 0, .int .i64 0]) ?_ 2 _ rfl; refine bk_ ?_; refine blk_put (cs := #[.bool t286, .int .i64 0, .int .i64 0, .int .i64 0]) ?_ 1 _ rfl; refine bk_ ?_; refine blk_put (cs := #[.bool false, .int .i64 0, .int .i64 0, .int .i64 0]) ?_ 0 _ rfl; refine bk_ ?_; refine blk_far ?_ NB292_291.out _; refine bk_ ?_; refine blk_far ?_ NB292_291.out _; refine bk_ ?_; refine blk_far ?_ NB292_291.out _; refine bk_ ?_; refine blk_far ?_ NB292_291.out _; refine bk_ ?_; exact BK292.out⟩
      have n4_ : Aside0 (Below w.heap.size w ((((((((w50.setCell ⟨gb291, 0, none⟩ (.bool t282)).setCell ⟨gb291, 1, none⟩ (.int .i64 t283)).setCell ⟨gb291, 2, none⟩ (.int .i64 t284)).setCell ⟨gb291, 3, none⟩ (.int .i64 t285)).setCell ⟨gb292, 0, none⟩ (.bool t286)).setCell ⟨gb292, 1, none⟩ (.int .i64 t287)).setCell ⟨gb292, 2, none⟩ (.int .i64 t288)).setCell ⟨gb292, 3, none⟩ (.int .i64 t289))) := ⟨by repeat (first | (with_reducible first | exact HB.out | apply below_alloc | apply pw_below_drewN | apply below_drew1 | refine below_set ?_ GE268.out | refine below_set ?_ GE291.out | refine below_set ?_ GE292.out) | exact HB.out)⟩
      (try clear HO_5)
      (try clear BK268)
      (try clear BK291)
      (try clear BK292)
      (try clear HB)
      generalize ((((((((w50.setCell ⟨gb291, 0, none⟩ (.bool t282)).setCell ⟨gb291, 1, none⟩ (.int .i64 t283)).setCell ⟨gb291, 2, none⟩ (.int .i64 t284)).setCell ⟨gb291, 3, none⟩ (.int .i64 t285)).setCell ⟨gb292, 0, none⟩ (.bool t286)).setCell ⟨gb292, 1, none⟩ (.int .i64 t287)).setCell ⟨gb292, 2, none⟩ (.int .i64 t288)).setCell ⟨gb292, 3, none⟩ (.int .i64 t289)) = w56 at n0_ n1_ n2_ n3_ n4_ ⊢
      have HO_5 := n0_
      have BK268 := n1_
      have BK291 := n2_
      have BK292 := n3_
      have HB := n4_
      clear n0_ n1_ n2_ n3_ n4_
      have n0_ := Aside0.mk (Kd.R_drew HO_5.out)
      have n1_ := Aside0.mk (blk_drew BK268.out)
      have n2_ := Aside0.mk (blk_drew BK291.out)
      have n3_ := Aside0.mk (blk_drew BK292.out)
      have n4_ := Aside0.mk (below_drew1 HB.out)
      clear HO_5
      clear BK268
      clear BK291
      clear BK292
      clear HB
      have HO_5 := n0_
      have BK268 := n1_
      have BK291 := n2_
      have BK292 := n3_
      have HB := n4_
      clear n0_ n1_ n2_ n3_ n4_
      refine start_ (n := 8) (S := fun w' => w'.cell? ⟨gb291, 0, none⟩ = some (.bool t282) ∧ w'.cell? ⟨gb291, 1, none⟩ = some (.int .i64 t283) ∧ w'.cell? ⟨gb291, 2, none⟩ = some (.int .i64 t284) ∧ w'.cell? ⟨gb291, 3, none⟩ = some (.int .i64 t285) ∧ w'.cell? ⟨gb292, 0, none⟩ = some (.bool t286) ∧ w'.cell? ⟨gb292, 1, none⟩ = some (.int .i64 t287) ∧ w'.cell? ⟨gb292, 2, none⟩ = some (.int .i64 t288) ∧ w'.cell? ⟨gb292, 3, none⟩ = some (.int .i64 t289)) (ds := []) #[false, false, false, false, false, false, false, false] (by kernel_rfl) rfl rfl ⟨(blk_cell BK291.out 0).trans rfl, (blk_cell BK291.out 1).trans rfl, (blk_cell BK291.out 2).trans rfl, (blk_cell BK291.out 3).trans rfl, (blk_cell BK292.out 0).trans rfl, (blk_cell BK292.out 1).trans rfl, (blk_cell BK292.out 2).trans rfl, (blk_cell BK292.out 3).trans rfl⟩ (fun hHeld => ?_); refine with_tabW impl_without.tab13 impl_without.bits13 (fun HT_ HW_ => ?_)
      generalize w56.drew = w57 at HO_5 BK268 BK291 BK292 HB hHeld ⊢
      refine pure_ (i := 1) (N := some 41) (v := ?_) (a' := ?_) #[false, true, false, false, false, false, false, false] rfl rfl (any_of HT_.out (by kernel_rfl)) (fun _ _ _ h => h) (Or.inl ⟨by rfl, ?_⟩) ?_ ?_
      rotate_left
      ·intro w'
       go_simp
       with_reducible rfl
      rotate_left
      ·simp only [put, setIfInBounds_toArray, set_cons_zero, set_cons_succ, i64_w, i32_w]
       rfl
      refine pure_ (i := 4) (N := some 44) (v := ?_) (a' := ?_) #[false, true, false, false, true, false, false, false] rfl rfl (any_of HT_.out (by kernel_rfl)) (fun _ _ _ h => h) (Or.inl ⟨by rfl, ?_⟩) ?_ ?_
      rotate_left
      ·intro w'
       go_simp
       with_reducible rfl
      rotate_left
      ·simp only [put, setIfInBounds_toArray, set_cons_zero, set_cons_succ, i64_w, i32_w]
       rfl
      refine take_ (i := 0) (N := some 40) (v := ?_) (a' := ?_) #[true, true, false, false, true, false, false, false] rfl rfl (take_ofW HT_.out HW_.out (by kernel_rfl)) (fun _ _ _ h => h) (Or.inl ⟨by rfl, ?_⟩) hHeld ?_ ?_
      rotate_left
      ·rintro w' ⟨s0, s1, s2, s3, s4, s5, s6, s7⟩
       go_simp
       with_reducible rfl
      rotate_left
      ·simp only [put, setIfInBounds_toArray, set_cons_zero, set_cons_succ, i64_w, i32_w]
       rfl
      refine take_ (i := 3) (N := some 43) (v := ?_) (a' := ?_) #[true, true, false, true, true, false, false, false] rfl rfl (take_ofW HT_.out HW_.out (by kernel_rfl)) (fun _ _ _ h => h) (Or.inl ⟨by rfl, ?_⟩) hHeld ?_ ?_
      rotate_left
      ·rintro w' ⟨s0, s1, s2, s3, s4, s5, s6, s7⟩
       go_simp
       with_reducible rfl
      rotate_left
      ·simp only [put, setIfInBounds_toArray, set_cons_zero, set_cons_succ, i64_w, i32_w]
       rfl
      refine one_ (i := 2) (N := some 42) #[true, true, true, true, true, false, false, false] rfl rfl (one_of HT_.out (by kernel_rfl)) (by decide) (fun K hK => ?_)
      refine goes_ Try.func110 (by kernel_rfl) rfl #[.agg #[.bool t282, .int .i64 t283, .int .i64 t284, .int .i64 t285], .slice Ao46 x5_1.length co46] (by rfl) rfl rfl al_ ?_
      with_reducible refine (ih k1 (by have := HK1.out; omega) t282 t283 t284 t285 _ _ x5_1 t293 _ ?side1 ?side2 A43.out).mono ?_
      (case side1 => repeat (first | exact (Kd.R_reads' HO_5.out).2.2 | (with_reducible refine Kd.C_alloc ?_ _) | (with_reducible refine Kd.C_drewN ?_ _) | (with_reducible refine Kd.C_drew ?_)))
      (case side2 => exact (Kd.R_reads' HO_5.out).2.1)
      rintro e w58 ⟨v294, rfl, ho0, hb⟩
      refine ⟨_, rfl, ?_⟩
      have n0_ := Aside0.mk (Kd.R_elder' (by (with_reducible repeat (first | apply Kd.R_alloc | apply Kd.R_drewN | apply Kd.R_drew)); exact HO_5.out) (Kd.R_base ho0) hb)
      have n1_ := Aside0.mk (Kd.R_lower (Kd.R_newB (Kd.R_newB (Kd.R_newB (Kd.R_new' ho0 (Kd.R_lt (by (with_reducible repeat (first | apply Kd.R_alloc | apply Kd.R_drewN | apply Kd.R_drew)); exact HO_5.out))) (g := gb268) (o := .cells #[.bool a0_0, .int .i64 a0_1, .int .i64 a0_2, .int .i64 a0_3] 32 (0, 0)) (bk_ BK268.out)) (g := gb291) (o := .cells #[.bool t282, .int .i64 t283, .int .i64 t284, .int .i64 t285] 32 (0, 0)) (bk_ BK291.out)) (g := gb292) (o := .cells #[.bool t286, .int .i64 t287, .int .i64 t288, .int .i64 t289] 32 (0, 0)) (bk_ BK292.out)) (below_size (by repeat (first | (with_reducible first | exact HB.out | apply below_alloc | apply pw_below_drewN | apply below_drew1 | refine below_set ?_ GE268.out | refine below_set ?_ GE291.out | refine below_set ?_ GE292.out) | exact HB.out))))
      have n2_ := Aside0.mk (blk_below (bk_ BK268.out) hb)
      have n3_ := Aside0.mk (blk_below (bk_ BK291.out) hb)
      have n4_ := Aside0.mk (blk_below (bk_ BK292.out) hb)
      have n5_ := Aside0.mk (below_step (by repeat (first | (with_reducible first | exact HB.out | apply below_alloc | apply pw_below_drewN | apply below_drew1 | refine below_set ?_ GE268.out | refine below_set ?_ GE291.out | refine below_set ?_ GE292.out) | exact HB.out)) hb)
      clear HO_5
      clear BK268
      clear BK291
      clear BK292
      clear HB
      have HO_5 := n0_
      have HO295 := n1_
      have BK268 := n2_
      have BK291 := n3_
      have BK292 := n4_
      have HB := n5_
      clear n0_ n1_ n2_ n3_ n4_ n5_
      (try clear hb)
      (try clear hb2)
      (try clear hk)
      (try clear hi)
      (try clear ho0)
      refine hK.out _ _ ⟨(blk_cell BK291.out 0).trans rfl, (blk_cell BK291.out 1).trans rfl, (blk_cell BK291.out 2).trans rfl, (blk_cell BK291.out 3).trans rfl, (blk_cell BK292.out 0).trans rfl, (blk_cell BK292.out 1).trans rfl, (blk_cell BK292.out 2).trans rfl, (blk_cell BK292.out 3).trans rfl⟩ (fun hHeld => ?_)
      clear hK K
      refine norm_ (a' := ?_) ?_ ?_
      rotate_left
      ·show Act.put _ (some 42) _ = _
       simp only [put, setIfInBounds_toArray, set_cons_zero, set_cons_succ, i64_w, i32_w]
       rfl
      refine one_ (i := 5) (N := some 45) #[true, true, true, true, true, true, false, false] rfl rfl (one_of HT_.out (by kernel_rfl)) (by decide) (fun K hK => ?_)
      refine goes_ Try.func110 (by kernel_rfl) rfl #[.agg #[.bool t286, .int .i64 t287, .int .i64 t288, .int .i64 t289], .slice Ao46 x5_1.length co46] (by rfl) rfl rfl al_ ?_
      with_reducible refine (ih k1 (by have := HK1.out; omega) t286 t287 t288 t289 _ _ x5_1 t296 _ ?side1 ?side2 A44.out).mono ?_
      (case side1 => repeat (first | exact (Kd.R_reads' HO_5.out).2.2 | (with_reducible refine Kd.C_alloc ?_ _) | (with_reducible refine Kd.C_drewN ?_ _) | (with_reducible refine Kd.C_drew ?_)))
      (case side2 => exact (Kd.R_reads' HO_5.out).2.1)
      rintro e w59 ⟨v297, rfl, ho0, hb⟩
      refine ⟨_, rfl, ?_⟩
      have n0_ := Aside0.mk (Kd.R_elder' (by (with_reducible repeat (first | apply Kd.R_alloc | apply Kd.R_drewN | apply Kd.R_drew)); exact HO_5.out) (Kd.R_base ho0) hb)
      have n1_ := Aside0.mk (Kd.R_elder' (by (with_reducible repeat (first | apply Kd.R_alloc | apply Kd.R_drewN | apply Kd.R_drew)); exact HO295.out) (Kd.R_base ho0) hb)
      have n2_ := Aside0.mk (Kd.R_lower (Kd.R_newB (Kd.R_newB (Kd.R_newB (Kd.R_new' (Kd.R_new' ho0 (Kd.R_lt (by (with_reducible repeat (first | apply Kd.R_alloc | apply Kd.R_drewN | apply Kd.R_drew)); exact HO_5.out))) (Kd.R_lt (by (with_reducible repeat (first | apply Kd.R_alloc | apply Kd.R_drewN | apply Kd.R_drew)); exact HO295.out))) (g := gb268) (o := .cells #[.bool a0_0, .int .i64 a0_1, .int .i64 a0_2, .int .i64 a0_3] 32 (0, 0)) (bk_ BK268.out)) (g := gb291) (o := .cells #[.bool t282, .int .i64 t283, .int .i64 t284, .int .i64 t285] 32 (0, 0)) (bk_ BK291.out)) (g := gb292) (o := .cells #[.bool t286, .int .i64 t287, .int .i64 t288, .int .i64 t289] 32 (0, 0)) (bk_ BK292.out)) (below_size (by repeat (first | (with_reducible first | exact HB.out | apply below_alloc | apply pw_below_drewN | apply below_drew1 | refine below_set ?_ GE268.out | refine below_set ?_ GE291.out | refine below_set ?_ GE292.out) | exact HB.out))))
      have n3_ := Aside0.mk (blk_below (bk_ BK268.out) hb)
      have n4_ := Aside0.mk (blk_below (bk_ BK291.out) hb)
      have n5_ := Aside0.mk (blk_below (bk_ BK292.out) hb)
      have n6_ := Aside0.mk (below_step (by repeat (first | (with_reducible first | exact HB.out | apply below_alloc | apply pw_below_drewN | apply below_drew1 | refine below_set ?_ GE268.out | refine below_set ?_ GE291.out | refine below_set ?_ GE292.out) | exact HB.out)) hb)
      clear HO_5
      clear HO295
      clear BK268
      clear BK291
      clear BK292
      clear HB
      have HO_5 := n0_
      have HO295 := n1_
      have HO298 := n2_
      have BK268 := n3_
      have BK291 := n4_
      have BK292 := n5_
      have HB := n6_
      clear n0_ n1_ n2_ n3_ n4_ n5_ n6_
      (try clear hb)
      (try clear hb2)
      (try clear hk)
      (try clear hi)
      (try clear ho0)
      obtain ⟨Ao61, co61, eo61⟩ := Kd.R_slice HO298.out
      (first | subst eo61 | (injection eo61 with f1_ f2_ f3_; have f4_ := f1_.symm; have f5_ := f3_.symm; clear f1_ f2_ f3_; subst f4_; subst f5_))
      refine hK.out _ _ ⟨(blk_cell BK291.out 0).trans rfl, (blk_cell BK291.out 1).trans rfl, (blk_cell BK291.out 2).trans rfl, (blk_cell BK291.out 3).trans rfl, (blk_cell BK292.out 0).trans rfl, (blk_cell BK292.out 1).trans rfl, (blk_cell BK292.out 2).trans rfl, (blk_cell BK292.out 3).trans rfl⟩ (fun hHeld => ?_)
      clear hK K
      refine norm_ (a' := ?_) ?_ ?_
      rotate_left
      ·show Act.put _ (some 45) _ = _
       simp only [put, setIfInBounds_toArray, set_cons_zero, set_cons_succ, i64_w, i32_w]
       rfl
      refine one_ (i := 6) (N := some 46) #[true, true, true, true, true, true, true, false] rfl rfl (one_of HT_.out (by kernel_rfl)) (by decide) (fun K hK => ?_)
      refine Kd.R_append_rows_step k32 (w0 := w) w.heap.size (by rfl) (.tmp 42) (.tmp 45) 70 32 (.agg #[(.bool false), (.int .i64 0), (.int .i64 0), (.int .i64 0)]) 32 rfl Try.underlying70 info32 rfl (by decide) (by omega) v294 t293 t296 _ _ _ (fun k_ => some k_ ≠ (.slice Ao46 x5_1.length co46 : Value).ownBlock ∧ some k_ ≠ (.slice Ao61 t296.length co61 : Value).ownBlock ∧ k_ ≠ gb268 ∧ k_ ≠ gb291 ∧ k_ ≠ gb292) (fun _ => False) rfl rfl ?aO ?aR (fun _ _ h => h) (fun _ h => h.elim) ?aF ?aB ?aS ?aL ?_
      (case aR => repeat (first | exact (Kd.R_reads' HO298.out).2.2 | (with_reducible refine Kd.C_alloc ?_ _) | (with_reducible refine Kd.C_drewN ?_ _) | (with_reducible refine Kd.C_drew ?_)))
      (case aB => exact (by repeat (first | (with_reducible first | exact HB.out | apply below_alloc | apply pw_below_drewN | apply below_drew1 | refine below_set ?_ GE268.out | refine below_set ?_ GE291.out | refine below_set ?_ GE292.out) | exact HB.out)))
      (case aF => exact (fun k_ hk => ⟨Kd.fresh' (Kd.R_lt (by (with_reducible repeat (first | apply Kd.R_alloc | apply Kd.R_drewN | apply Kd.R_drew)); exact HO_5.out)) k_ hk, Kd.fresh' (Kd.R_lt (by (with_reducible repeat (first | apply Kd.R_alloc | apply Kd.R_drewN | apply Kd.R_drew)); exact HO298.out)) k_ hk, Kd.freshB (g := gb268) (o := .cells #[.bool a0_0, .int .i64 a0_1, .int .i64 a0_2, .int .i64 a0_3] 32 (0, 0)) (bk_ BK268.out) k_ hk, Kd.freshB (g := gb291) (o := .cells #[.bool t282, .int .i64 t283, .int .i64 t284, .int .i64 t285] 32 (0, 0)) (bk_ BK291.out) k_ hk, Kd.freshB (g := gb292) (o := .cells #[.bool t286, .int .i64 t287, .int .i64 t288, .int .i64 t289] 32 (0, 0)) (bk_ BK292.out) k_ hk⟩))
      (case aO => exact (by (with_reducible repeat (first | apply Kd.R_alloc | apply Kd.R_drewN | apply Kd.R_drew)); exact Kd.R_mono HO295.out (fun _ hk => ⟨hk.1.1.1.1.2, ⟨hk.2, ⟨hk.1.1.1.2, ⟨hk.1.1.2, hk.1.2⟩⟩⟩⟩)))
      (case aS => exact (below_size (by repeat (first | (with_reducible first | exact HB.out | apply below_alloc | apply pw_below_drewN | apply below_drew1 | refine below_set ?_ GE268.out | refine below_set ?_ GE291.out | refine below_set ?_ GE292.out) | exact HB.out))))
      (case aL => have := LMc45.out; omega)
      intro v300 w60 ho hb hg hat
      rw [← Ny299.out] at ho
      have n0_ := Aside0.mk (Kd.R_after (ok := (fun k_ => some k_ ≠ (.slice Ao61 t296.length co61 : Value).ownBlock ∧ k_ ≠ gb268 ∧ k_ ≠ gb291 ∧ k_ ≠ gb292)) (by (with_reducible repeat (first | apply Kd.R_alloc | apply Kd.R_drewN | apply Kd.R_drew)); exact Kd.R_mono HO_5.out (fun _ hk => ⟨⟨hk.2, ⟨hk.1.1.1, ⟨hk.1.1.2.1, hk.1.1.2.2⟩⟩⟩, hk.1.2⟩)) hg hat)
      have n1_ := Aside0.mk (blk_grown (g := gb268) (o := .cells #[.bool a0_0, .int .i64 a0_1, .int .i64 a0_2, .int .i64 a0_3] 32 (0, 0)) (bk_ BK268.out) hg (Kd.R_away HO295.out (fun _ hk => hk.1.1.1.2)))
      have n2_ := Aside0.mk (blk_grown (g := gb291) (o := .cells #[.bool t282, .int .i64 t283, .int .i64 t284, .int .i64 t285] 32 (0, 0)) (bk_ BK291.out) hg (Kd.R_away HO295.out (fun _ hk => hk.1.1.2)))
      have n3_ := Aside0.mk (blk_grown (g := gb292) (o := .cells #[.bool t286, .int .i64 t287, .int .i64 t288, .int .i64 t289] 32 (0, 0)) (bk_ BK292.out) hg (Kd.R_away HO295.out (fun _ hk => hk.1.2)))
      have n4_ := Aside0.mk (Kd.R_after (ok := (fun k_ => some k_ ≠ (.slice Ao46 x5_1.length co46 : Value).ownBlock ∧ k_ ≠ gb268 ∧ k_ ≠ gb291 ∧ k_ ≠ gb292)) (by (with_reducible repeat (first | apply Kd.R_alloc | apply Kd.R_drewN | apply Kd.R_drew)); exact Kd.R_mono HO298.out (fun _ hk => ⟨⟨hk.1.1.1.1.2, ⟨hk.1.1.2, ⟨hk.1.2, hk.2⟩⟩⟩, hk.1.1.1.2⟩)) hg hat)
      have n5_ := Aside0.mk (hb)
      have n6_ := Aside0.mk (ho)
      clear HO_5
      clear BK268
      clear BK291
      clear BK292
      clear HO298
      clear HB
      clear HO295
      have HO_5 := n0_
      have BK268 := n1_
      have BK291 := n2_
      have BK292 := n3_
      have HO298 := n4_
      have HB := n5_
      have HO301 := n6_
      clear n0_ n1_ n2_ n3_ n4_ n5_ n6_
      clear ho hb hg hat
      refine hK.out _ _ ⟨(blk_cell BK291.out 0).trans rfl, (blk_cell BK291.out 1).trans rfl, (blk_cell BK291.out 2).trans rfl, (blk_cell BK291.out 3).trans rfl, (blk_cell BK292.out 0).trans rfl, (blk_cell BK292.out 1).trans rfl, (blk_cell BK292.out 2).trans rfl, (blk_cell BK292.out 3).trans rfl⟩ (fun hHeld => ?_)
      clear hK K
      refine norm_ (a' := ?_) ?_ ?_
      rotate_left
      ·show Act.put _ (some 46) _ = _
       simp only [put, setIfInBounds_toArray, set_cons_zero, set_cons_succ, i64_w, i32_w]
       rfl
      refine pure_ (i := 7) (N := some 4) (v := ?_) (a' := ?_) #[true, true, true, true, true, true, true, true] rfl rfl (any_of HT_.out (by kernel_rfl)) (fun _ _ _ h => h) (Or.inl ⟨by rfl, ?_⟩) ?_ ?_
      rotate_left
      ·intro w'
       go_simp
       with_reducible rfl
      rotate_left
      ·simp only [put, setIfInBounds_toArray, set_cons_zero, set_cons_succ, i64_w, i32_w]
       rfl
      refine done_ (done_of HT_.out (by kernel_rfl)) ?_
      try go_wp2
      go_ret
      exact ⟨_, by first | rfl | (simp [errW_none, errW_some] <;> rfl) | (simp [*, errW_none, errW_some] <;> rfl), by (with_reducible repeat (first | apply Kd.R_alloc | apply Kd.R_drewN | apply Kd.R_drew)); exact Kd.R_mono HO301.out (fun _ hk => trivial), by repeat (first | (with_reducible first | exact HB.out | apply below_alloc | apply pw_below_drewN | apply below_drew1 | refine below_set ?_ GE268.out | refine below_set ?_ GE291.out | refine below_set ?_ GE292.out) | exact HB.out)⟩
     ·rw [if_neg c45] at H
      exact absurd H (by simp)

-- NOT PRINTED: function 140 (slices_IndexFunc_impl_Prefix)

-- NOT PRINTED: function 136 (slices_ContainsFunc_impl_Prefix)

/-! ### impl_listOk: function 129 -/
def impl_listOk.bad (x : S32) : Bool := !(impl_PrefixOk.f x.f0.f0 x.f0.f1 x.f0.f2 x.f1 == some true)
def impl_listOk.f (l0 : List (S32)) : Option (Bool) :=
 if l0.all (fun x => (impl_PrefixOk.f x.f0.f0 x.f0.f1 x.f0.f2 x.f1).isSome) = true then some (decide ((l0.length : Int) ≤ 300) && !(l0.any impl_listOk.bad)) else none
theorem impl_listOk.miss (l0 : List (S32)) (h : ∀ j : Nat, j < l0.length → impl_listOk.bad (rd_T32 l0 (j : Int)) = false) : l0.any impl_listOk.bad = false := by
 rw [List.any_eq_false]
 intro x hx
 obtain ⟨j, hj, rfl⟩ := List.getElem_of_mem hx
 have := h j hj
 simp only [rd_T32, Int.toNat_natCast, List.getD_eq_getElem?_getD, List.getElem?_eq_getElem hj, Option.getD_some] at this
 simp [this]
theorem impl_listOk.mem (l0 : List (S32)) (j : Nat) (hj : j < l0.length) : rd_T32 l0 (j : Int) ∈ l0 := by
 simp only [rd_T32, Int.toNat_natCast, List.getD_eq_getElem?_getD, List.getElem?_eq_getElem hj, Option.getD_some]
 exact List.getElem_mem hj
theorem impl_listOk.hit (l0 : List (S32)) (j : Nat) (hj : j < l0.length) (h : impl_listOk.bad (rd_T32 l0 (j : Int)) = true) : l0.any impl_listOk.bad = true :=
 List.any_eq_true.2 ⟨_, impl_listOk.mem l0 j hj, h⟩
set_option maxHeartbeats 8000000 in
set_option maxRecDepth 100000 in
theorem impl_listOk.clo (x : S32) (w : World) (h : (impl_PrefixOk.f x.f0.f0 x.f0.f1 x.f0.f2 x.f1).isSome = true) :
  Calls Try.prog 137 #[.agg #[.bool x.f0.f0, .int .i64 x.f0.f1, .int .i64 x.f0.f2, .int .i64 x.f1]] w fun e w' => e = .returned (.bool (impl_listOk.bad x)) ∧ Below w.heap.size w w' := by
 obtain ⟨b, hb0⟩ := Option.isSome_iff_exists.1 h
 have hbad : impl_listOk.bad x = !b := by simp [impl_listOk.bad, hb0]
 rw [hbad]
 have hcall := fun W : World => impl_PrefixOk.calls x.f0.f0 x.f0.f1 x.f0.f2 x.f1 b W hb0
 clear hb0 h hbad
 obtain ⟨⟨y0, y1, y2⟩, y3⟩ := x
 dsimp only at hcall ⊢
 go_enter Try.func137, Try.ntmps137
 go_wp2_with (go_at_call 68; refine (hcall _).mono ?_; rintro e w' ⟨rfl, hb'⟩)
 go_ret
 exact ⟨rfl, below_step (below_alloc (Below.refl _ _) _) hb'⟩
set_option maxHeartbeats 8000000 in
set_option maxRecDepth 100000 in
theorem impl_listOk.index (A0 : Option Addr) (c0 : Nat) (l0 : List (S32)) (w : World) (hr0 : Kd.C k32 w A0 l0.length l0) (hall : ∀ x ∈ l0, (impl_PrefixOk.f x.f0.f0 x.f0.f1 x.f0.f2 x.f1).isSome = true) :
  Calls Try.prog 140 #[.slice A0 l0.length c0, .func (.func 137) #[] #[]] w fun e w' => (∃ i : Int, e = .returned (.int .i64 i) ∧ decide (i ≥ 0) = l0.any impl_listOk.bad) ∧ Below w.heap.size w w' := by
 have hu32 := Try.underlying32
 have eg : ∀ args w, (callFunc 137 args).run Try.prog w = .ok (.enter 137 args) w := enters_of Try.func137 (by kernel_rfl) rfl
 have HN := Aside0.mk hr0.2.1
 have HR0 := Aside0.mk hr0
 have HALL := Aside0.mk hall
 clear hr0 hall
 go_enter Try.func140, Try.ntmps140
 go_wp2
 go_loopg [5, 8] l0.length (fun gg v5 v8 w' => ∃ (kk : Nat), kk ≤ l0.length ∧ l0.length - kk ≤ gg ∧ v8 = .int .i64 (kk : Int) ∧ Aside0 (Below w.heap.size w w') ∧ Aside0 (∀ j : Nat, j < kk → impl_listOk.bad (rd_T32 l0 (j : Int)) = false))
 case atStart => exact ⟨0, Nat.zero_le _, by omega, rfl, ⟨Below.refl _ w⟩, ⟨fun j hj => absurd hj (Nat.not_lt_zero _)⟩⟩
 case round =>
  obtain ⟨kk, hkk, hg, rfl, HB, M⟩ := hrel
  by_cases hlt : kk < l0.length
  ·have p130 : 0 ≤ (kk : Int) := by omega
   have q130 : (kk : Int) < (l0.length : Int) := by omega
   obtain ⟨ad130, e130, hx130_0, hx130_1, hx130_2, hx130_3⟩ := at_T32 HR0.out (kk : Int) p130 q130
   cases e130
   simp only [Int.toNat_natCast] at hx130_0 hx130_1 hx130_2 hx130_3
   replace hx130_0 := (HB.out.cell (World.block_lt_of_cell? w _ hx130_0)).trans hx130_0
   replace hx130_1 := (HB.out.cell (World.block_lt_of_cell? w _ hx130_1)).trans hx130_1
   replace hx130_2 := (HB.out.cell (World.block_lt_of_cell? w _ hx130_2)).trans hx130_2
   replace hx130_3 := (HB.out.cell (World.block_lt_of_cell? w _ hx130_3)).trans hx130_3
   have hcall := impl_listOk.clo (rd_T32 l0 (kk : Int)) wr (HALL.out _ (impl_listOk.mem l0 kk hlt))
   have HX := Aside0.mk (show rd_T32 l0 (kk : Int) = rd_T32 l0 (kk : Int) from rfl)
   generalize hy : rd_T32 l0 (kk : Int) = y at hx130_0 hx130_1 hx130_2 hx130_3 hcall
   have HY := Aside0.mk hy
   clear hy HX
   have hltd : decide ((kk : Int) < (l0.length : Int)) = true := decide_eq_true q130
   replace p130 := eq_true p130
   replace q130 := eq_true q130
   cases hq : impl_listOk.bad y with
   | true =>
    rw [hq] at hcall
    go_wp2_with (go_at_fn 137; refine hcall.mono ?_; rintro e w' ⟨rfl, hb'⟩)
    go_ret
    refine ⟨⟨_, rfl, ?_⟩, below_step HB.out hb'⟩
    rw [impl_listOk.hit l0 kk hlt (by rw [HY.out]; exact hq)]
    simp
   | false =>
    rw [hq] at hcall
    go_wp2_with (go_at_fn 137; refine hcall.mono ?_; rintro e w' ⟨rfl, hb'⟩)
    go_roundg (l0.length - (kk + 1))
    case measure => omega
    case rel =>
     have hn := HN.out
     refine ⟨kk + 1, by omega, by omega, (by rw [show wrap64 ((kk : Int) + 1) = ((kk + 1 : Nat) : Int) from by unfold wrap64; omega]), ⟨below_step HB.out hb'⟩, ⟨fun j hj => ?_⟩⟩
     by_cases e : j = kk
     ·subst e
      rw [HY.out]; exact hq
     ·exact M.out j (by omega)
  ·have hltd : decide ((kk : Int) < (l0.length : Int)) = false := decide_eq_false (by omega)
   have : kk = l0.length := by omega
   subst this
   go_wp2
   go_ret
   refine ⟨⟨_, rfl, ?_⟩, HB.out⟩
   rw [impl_listOk.miss l0 M.out]
   simp
set_option maxHeartbeats 8000000 in
set_option maxRecDepth 100000 in
theorem impl_listOk.contains (A0 : Option Addr) (c0 : Nat) (l0 : List (S32)) (w : World) (hr0 : Kd.C k32 w A0 l0.length l0) (hall : ∀ x ∈ l0, (impl_PrefixOk.f x.f0.f0 x.f0.f1 x.f0.f2 x.f1).isSome = true) :
  Calls Try.prog 136 #[.slice A0 l0.length c0, .func (.func 137) #[] #[]] w fun e w' => e = .returned (.bool (l0.any impl_listOk.bad)) ∧ Below w.heap.size w w' := by
 have hcall := impl_listOk.index A0 c0 l0 w hr0 hall
 clear hr0 hall
 generalize l0.any impl_listOk.bad = r at hcall ⊢
 go_enter Try.func136, Try.ntmps136
 go_wp2_with (go_at_call 140; refine hcall.mono ?_; rintro e w' ⟨⟨i, rfl, hi⟩, hb'⟩)
 go_ret
 exact ⟨by rw [← hi]; rfl, hb'⟩
set_option maxHeartbeats 8000000 in
set_option maxRecDepth 100000 in
theorem impl_listOk.calls (A0 : Option Addr) (c0 : Nat) (l0 : List (S32)) (r : Bool) (w : World) (hr0 : Kd.C k32 w A0 l0.length l0) (hc0 : l0.length ≤ c0) (h : impl_listOk.f l0 = some r) :
  Calls Try.prog 129 #[.slice A0 l0.length c0] w fun e w' => e = .returned (.bool r) ∧ Below w.heap.size w w' := by
 unfold impl_listOk.f at h
 split at h
 ·rename_i hall
  obtain rfl := Option.some.inj h
  have hall' := List.all_eq_true.1 hall
  have hcall := impl_listOk.contains A0 c0 l0 w hr0 hall'
  clear h hall hall' hr0 hc0
  generalize l0.any impl_listOk.bad = r at hcall ⊢
  by_cases hle : (l0.length : Int) ≤ 300
  ·have hd : decide ((l0.length : Int) ≤ 300) = true := decide_eq_true hle
   rw [hd]
   clear hle
   go_enter Try.func129, Try.ntmps129
   go_wp2_with (go_at_call 136; refine hcall.mono ?_; rintro e w' ⟨rfl, hb'⟩)
   go_ret
   exact ⟨by simp, hb'⟩
  ·have hd : decide ((l0.length : Int) ≤ 300) = false := decide_eq_false hle
   rw [hd]
   clear hle hcall
   go_enter Try.func129, Try.ntmps129
   go_wp2
   go_ret
   exact ⟨by simp, Below.refl _ w⟩
 ·exact absurd h (by simp)

/-! ### impl_Without: function 112 -/
def impl_Without.f (k : Nat) (a0_0 : Bool) (a0_1 : Int) (a0_2 : Int) (a0_3 : Int) (l1 : List (S32)) : Option ((List (S32))) := (impl_PrefixOk.f a0_0 a0_1 a0_2 a0_3).bind fun t303 => (if t303 = true then ((impl_listOk.f l1).bind fun t304 => (if t304 = true then ((impl_without.f k a0_0 a0_1 a0_2 a0_3 l1).bind fun t305 => (some t305)) else (some ([] : List (S32))))) else (some ([] : List (S32))))
theorem impl_Without.mono : ∀ a0 a1 a2 a3 a4 k, LeO (impl_Without.f k a0 a1 a2 a3 a4) (impl_Without.f (k + 1) a0 a1 a2 a3 a4) := by
 intro a0 a1 a2 a3 a4 k
 unfold impl_Without.f
 repeat' first
   | (with_reducible exact impl_without.mono _ _ _ _ _ _)
   | (with_reducible exact LeO.refl _)
   | (with_reducible exact LeO.none _)
   | (with_reducible refine LeO.ite ?_ ?_)
   | (with_reducible refine LeO.bind ?_ (fun _ => ?_))
   | exact impl_without.mono _ _ _ _ _ _
   | exact LeO.none _
   | refine LeO.ite ?_ ?_
   | refine LeO.bind ?_ (fun _ => ?_)
set_option maxHeartbeats 8000000 in
set_option maxRecDepth 100000 in
theorem impl_Without.calls (k : Nat) (a0_0 : Bool) (a0_1 : Int) (a0_2 : Int) (a0_3 : Int) (A1 : Option Addr) (c1 : Nat) (l1 : List (S32)) (r : List (S32)) (w : World) (hr1 : Kd.C k32 w A1 l1.length l1) (hc1 : l1.length ≤ c1) (h : impl_Without.f k a0_0 a0_1 a0_2 a0_3 l1 = some r) :
  Calls Try.prog 112 #[.agg #[.bool a0_0, .int .i64 a0_1, .int .i64 a0_2, .int .i64 a0_3], .slice A1 l1.length c1] w fun e w' => ∃ v0_ : Value, e = .returned (v0_) ∧ Kd.R k32 32 w' w.heap.size (fun _ => True) v0_ r ∧ Below w.heap.size w w' := by
 have hu32 := Try.underlying32
 have HR1 := Aside0.mk hr1
 have HC1 := Aside0.mk hc1
 clear hr1 hc1
 have HB := Aside0.mk (Below.refl w.heap.size w)
 have H : ((impl_PrefixOk.f a0_0 a0_1 a0_2 a0_3).bind fun t303 => (if t303 = true then ((impl_listOk.f l1).bind fun t304 => (if t304 = true then ((impl_without.f k a0_0 a0_1 a0_2 a0_3 l1).bind fun t305 => (some t305)) else (some ([] : List (S32))))) else (some ([] : List (S32))))) = some r := h
 clear h
 replace H := Option.bind_eq_some_iff.mp H
 obtain ⟨t303, A30, H⟩ := H
 replace H : (if t303 = true then ((impl_listOk.f l1).bind fun t304 => (if t304 = true then ((impl_without.f k a0_0 a0_1 a0_2 a0_3 l1).bind fun t305 => (some t305)) else (some ([] : List (S32))))) else (some ([] : List (S32)))) = some r := H
 have A3 := Aside0.mk A30
 clear A30
 by_cases c4 : t303 = true
 ·subst c4
  have H1 : ((impl_listOk.f l1).bind fun t304 => (if t304 = true then ((impl_without.f k a0_0 a0_1 a0_2 a0_3 l1).bind fun t305 => (some t305)) else (some ([] : List (S32))))) = some r := by rw [if_pos rfl] at H; exact H
  clear H
  have H := H1
  clear H1
  replace H := Option.bind_eq_some_iff.mp H
  obtain ⟨t304, A50, H⟩ := H
  replace H : (if t304 = true then ((impl_without.f k a0_0 a0_1 a0_2 a0_3 l1).bind fun t305 => (some t305)) else (some ([] : List (S32)))) = some r := H
  have A5 := Aside0.mk A50
  clear A50
  by_cases c6 : t304 = true
  ·subst c6
   have H1 : ((impl_without.f k a0_0 a0_1 a0_2 a0_3 l1).bind fun t305 => (some t305)) = some r := by rw [if_pos rfl] at H; exact H
   clear H
   have H := H1
   clear H1
   replace H := Option.bind_eq_some_iff.mp H
   obtain ⟨t305, A70, H⟩ := H
   replace H : (some t305) = some r := H
   have A7 := Aside0.mk A70
   clear A70
   obtain rfl := Option.some.inj H
   go_enter Try.func112, Try.ntmps112
   go_wp2_with (first | ((with_reducible refine gate_dst (N := 2) rfl ?_); refine box_event ?hg (N := 2) ?hd (cs := #[.bool a0_0, .int .i64 a0_1, .int .i64 a0_2, .int .i64 a0_3]) (t := 32) ?hr ?_; (case hd => rfl); (case hg => rfl); (case hr => first | (go_simp; done) | (go_simp; rfl)); intro gb302 hg w8 hbox hb; have n0_ := Aside0.mk (below_step (hb_ HB.out) hb); have n1_ := Aside0.mk (hbox); have n2_ := bg_ hg (below_size (hb_ HB.out)); have n3_ := bg_ hg (below_size (hb_ HB.out)); clear HB; have HB := n0_; have BK302 := n1_; have GW302 := n2_; have GE302 := n3_; clear n0_ n1_ n2_ n3_; clear hb hbox hg; obtain ⟨hcz9_0, hcz9_1, hcz9_2, hcz9_3, hfz9_0, hfz9_1, hfz9_2, hfz9_3⟩ := bc4_ BK302.out) | ((with_reducible refine gate_callee (f := 68) rfl ?_); refine goesL_ (some 6) rfl rfl Try.func68 (by kernel_rfl) rfl #[.agg #[.bool a0_0, .int .i64 a0_1, .int .i64 a0_2, .int .i64 a0_3]] rfl al_ ?_; (with_reducible refine (impl_PrefixOk.calls a0_0 a0_1 a0_2 a0_3 true _ A3.out).mono ?_); rintro e w10 ⟨rfl, hb⟩; refine ⟨_, rfl, ?_⟩; have n0_ := Aside0.mk (blk_below (bk_ BK302.out) hb); have n1_ := Aside0.mk (below_step (hc_ HB.out GE302.out) hb); clear BK302; clear HB; have BK302 := n0_; have HB := n1_; clear n0_ n1_; (try clear hb); (try clear hb2); (try clear hk); (try clear hi)) | (go_at_call 129; (with_reducible refine (impl_listOk.calls _ _ l1 true _ ?side1 ?side2 A5.out).mono ?_); (case side1 => repeat (first | exact (Kd.C_below HR1.out HB.out) | (with_reducible refine Kd.C_alloc ?_ _) | (with_reducible refine Kd.C_drewN ?_ _) | (with_reducible refine Kd.C_drew ?_))); (case side2 => exact HC1.out); rintro e w11 ⟨rfl, hb⟩; have n0_ := Aside0.mk (blk_below (bk_ BK302.out) hb); have n1_ := Aside0.mk (below_step (hc_ HB.out GE302.out) hb); clear BK302; clear HB; have BK302 := n0_; have HB := n1_; clear n0_ n1_; (try clear hb); (try clear hb2); (try clear hk); (try clear hi); obtain ⟨hcz12_0, hcz12_1, hcz12_2, hcz12_3, hfz12_0, hfz12_1, hfz12_2, hfz12_3⟩ := bc4_ BK302.out) | ((with_reducible refine gate_callee (f := 110) rfl ?_); refine goesL_ (some 15) rfl rfl Try.func110 (by kernel_rfl) rfl #[.agg #[.bool a0_0, .int .i64 a0_1, .int .i64 a0_2, .int .i64 a0_3], .slice A1 l1.length c1] rfl al_ ?_; (with_reducible refine (impl_without.calls k a0_0 a0_1 a0_2 a0_3 _ _ l1 t305 _ ?side1 ?side2 A7.out).mono ?_); (case side1 => repeat (first | exact (Kd.C_below HR1.out HB.out) | (with_reducible refine Kd.C_alloc ?_ _) | (with_reducible refine Kd.C_drewN ?_ _) | (with_reducible refine Kd.C_drew ?_))); (case side2 => exact HC1.out); rintro e w13 ⟨v306, rfl, ho0, hb⟩; refine ⟨_, rfl, ?_⟩; have n0_ := Aside0.mk (Kd.R_lower (Kd.R_newB ho0 (g := gb302) (o := .cells #[.bool a0_0, .int .i64 a0_1, .int .i64 a0_2, .int .i64 a0_3] 32 (0, 0)) (bk_ BK302.out)) (below_size (hc_ HB.out GE302.out))); have n1_ := Aside0.mk (blk_below (bk_ BK302.out) hb); have n2_ := Aside0.mk (below_step (hc_ HB.out GE302.out) hb); clear BK302; clear HB; have HO307 := n0_; have BK302 := n1_; have HB := n2_; clear n0_ n1_ n2_; (try clear hb); (try clear hb2); (try clear hk); (try clear hi); (try clear ho0)))
   go_ret
   exact ⟨_, by first | rfl | (simp [errW_none, errW_some] <;> rfl) | (simp [*, errW_none, errW_some] <;> rfl), by (with_reducible repeat (first | apply Kd.R_alloc | apply Kd.R_drewN | apply Kd.R_drew)); exact Kd.R_mono HO307.out (fun _ hk => trivial), hc_ HB.out GE302.out⟩
  ·replace c6 := Bool.eq_false_iff.mpr c6
   subst c6
   have H1 : (some ([] : List (S32))) = some r := by rw [if_neg (show ¬ (false = true) by decide)] at H; exact H
   clear H
   have H := H1
   clear H1
   obtain rfl := Option.some.inj H
   go_enter Try.func112, Try.ntmps112
   go_wp2_with (first | ((with_reducible refine gate_dst (N := 2) rfl ?_); refine box_event ?hg (N := 2) ?hd (cs := #[.bool a0_0, .int .i64 a0_1, .int .i64 a0_2, .int .i64 a0_3]) (t := 32) ?hr ?_; (case hd => rfl); (case hg => rfl); (case hr => first | (go_simp; done) | (go_simp; rfl)); intro gb302 hg w14 hbox hb; have n0_ := Aside0.mk (below_step (hb_ HB.out) hb); have n1_ := Aside0.mk (hbox); have n2_ := bg_ hg (below_size (hb_ HB.out)); have n3_ := bg_ hg (below_size (hb_ HB.out)); clear HB; have HB := n0_; have BK302 := n1_; have GW302 := n2_; have GE302 := n3_; clear n0_ n1_ n2_ n3_; clear hb hbox hg; obtain ⟨hcz15_0, hcz15_1, hcz15_2, hcz15_3, hfz15_0, hfz15_1, hfz15_2, hfz15_3⟩ := bc4_ BK302.out) | ((with_reducible refine gate_callee (f := 68) rfl ?_); refine goesL_ (some 6) rfl rfl Try.func68 (by kernel_rfl) rfl #[.agg #[.bool a0_0, .int .i64 a0_1, .int .i64 a0_2, .int .i64 a0_3]] rfl al_ ?_; (with_reducible refine (impl_PrefixOk.calls a0_0 a0_1 a0_2 a0_3 true _ A3.out).mono ?_); rintro e w16 ⟨rfl, hb⟩; refine ⟨_, rfl, ?_⟩; have n0_ := Aside0.mk (blk_below (bk_ BK302.out) hb); have n1_ := Aside0.mk (below_step (hc_ HB.out GE302.out) hb); clear BK302; clear HB; have BK302 := n0_; have HB := n1_; clear n0_ n1_; (try clear hb); (try clear hb2); (try clear hk); (try clear hi)) | (go_at_call 129; (with_reducible refine (impl_listOk.calls _ _ l1 false _ ?side1 ?side2 A5.out).mono ?_); (case side1 => repeat (first | exact (Kd.C_below HR1.out HB.out) | (with_reducible refine Kd.C_alloc ?_ _) | (with_reducible refine Kd.C_drewN ?_ _) | (with_reducible refine Kd.C_drew ?_))); (case side2 => exact HC1.out); rintro e w17 ⟨rfl, hb⟩; have n0_ := Aside0.mk (blk_below (bk_ BK302.out) hb); have n1_ := Aside0.mk (below_step (hc_ HB.out GE302.out) hb); clear BK302; clear HB; have BK302 := n0_; have HB := n1_; clear n0_ n1_; (try clear hb); (try clear hb2); (try clear hk); (try clear hi)))
   go_ret
   exact ⟨_, by first | rfl | (simp [errW_none, errW_some] <;> rfl) | (simp [*, errW_none, errW_some] <;> rfl), by first | exact Kd.R_nil _ _ _ _ _ | exact Kd.N_nil _ _ _ _ _ | exact Kd.V_nil _ _ _ _ _ | exact Kd.Q_nil _ _ _ _ _ | exact Kd.S_nil _ _ _ _ _, hc_ HB.out GE302.out⟩
 ·replace c4 := Bool.eq_false_iff.mpr c4
  subst c4
  have H1 : (some ([] : List (S32))) = some r := by rw [if_neg (show ¬ (false = true) by decide)] at H; exact H
  clear H
  have H := H1
  clear H1
  obtain rfl := Option.some.inj H
  go_enter Try.func112, Try.ntmps112
  go_wp2_with (first | ((with_reducible refine gate_dst (N := 2) rfl ?_); refine box_event ?hg (N := 2) ?hd (cs := #[.bool a0_0, .int .i64 a0_1, .int .i64 a0_2, .int .i64 a0_3]) (t := 32) ?hr ?_; (case hd => rfl); (case hg => rfl); (case hr => first | (go_simp; done) | (go_simp; rfl)); intro gb302 hg w18 hbox hb; have n0_ := Aside0.mk (below_step (hb_ HB.out) hb); have n1_ := Aside0.mk (hbox); have n2_ := bg_ hg (below_size (hb_ HB.out)); have n3_ := bg_ hg (below_size (hb_ HB.out)); clear HB; have HB := n0_; have BK302 := n1_; have GW302 := n2_; have GE302 := n3_; clear n0_ n1_ n2_ n3_; clear hb hbox hg; obtain ⟨hcz19_0, hcz19_1, hcz19_2, hcz19_3, hfz19_0, hfz19_1, hfz19_2, hfz19_3⟩ := bc4_ BK302.out) | ((with_reducible refine gate_callee (f := 68) rfl ?_); refine goesL_ (some 6) rfl rfl Try.func68 (by kernel_rfl) rfl #[.agg #[.bool a0_0, .int .i64 a0_1, .int .i64 a0_2, .int .i64 a0_3]] rfl al_ ?_; (with_reducible refine (impl_PrefixOk.calls a0_0 a0_1 a0_2 a0_3 false _ A3.out).mono ?_); rintro e w20 ⟨rfl, hb⟩; refine ⟨_, rfl, ?_⟩; have n0_ := Aside0.mk (blk_below (bk_ BK302.out) hb); have n1_ := Aside0.mk (below_step (hc_ HB.out GE302.out) hb); clear BK302; clear HB; have BK302 := n0_; have HB := n1_; clear n0_ n1_; (try clear hb); (try clear hb2); (try clear hk); (try clear hi)))
  go_ret
  exact ⟨_, by first | rfl | (simp [errW_none, errW_some] <;> rfl) | (simp [*, errW_none, errW_some] <;> rfl), by first | exact Kd.R_nil _ _ _ _ _ | exact Kd.N_nil _ _ _ _ _ | exact Kd.V_nil _ _ _ _ _ | exact Kd.Q_nil _ _ _ _ _ | exact Kd.S_nil _ _ _ _ _, hc_ HB.out GE302.out⟩

end Go.Proofs.Ytigmadccchofiaa.QFnExactLargest
