-- Written by a program of this session (wip/myprint.py); Lean checks it.
import Derived.Test.YtigmadccchofiaaQFnExactLargestx0
import Derived.Test.YtigmadccchofiaaQFnExactLargestx2
import Derived.Test.YtigmadccchofiaaQFnExactLargestx9
import Derived.Test.YtigmadccchofiaaQFnExactLargestx13
namespace Go.Proofs.Ytigmadccchofiaa.QFnExactLargest
open Go.RowKit Go.Proofs.YtigmadccchofiaaW.PrintWords Go.Proofs.YtigmadccchofiaaW.PrintLast Go.Proofs.YtigmadccchofiaaW.PrintMore
attribute [local go_sem] max2_int min2_int max_two min_two max_three min_three max_four min_four   -- for this text's walks alone
set_option linter.unusedVariables false
set_option linter.unusedSimpArgs false

attribute [local go_sem] isSome_setCell
/-! ### impl_Largest: function 59 -/
def impl_Largest.l0 : Nat → List (S32) → Int → Int → Bool → Int → Int → Int → Option (Bool × Int × Int × Int × Bool)
 | 0, _, _, _, _, _, _, _ => none
 | k + 1, x20, x21, x22, x315000, x315001, x315002, x315003 => if x22 < x21 then (if 0 ≤ x22 then (if x22 < (x20.length : Int) then (if ((rd_T32 x20 x22).f1) < x315003 then (impl_Largest.l0 k x20 x21 (wrap64 (x22 + 1)) ((rd_T32 x20 x22).f0.f0) ((rd_T32 x20 x22).f0.f1) ((rd_T32 x20 x22).f0.f2) ((rd_T32 x20 x22).f1)) else (impl_Largest.l0 k x20 x21 (wrap64 (x22 + 1)) x315000 x315001 x315002 x315003)) else (none)) else (none)) else (some (x315000, x315001, x315002, x315003, true))
def impl_Largest.f (k : Nat) (a0_0 : Bool) (a0_1 : Int) (a0_2 : Int) (a0_3 : Int) (l1 : List (S32)) : Option (Bool × Int × Int × Int × Bool) := (impl_Without.f k a0_0 a0_1 a0_2 a0_3 l1).bind fun t310 => (if (t310.length : Int) = 0 then (some (false, 0, 0, 0, false)) else (if 0 < (t310.length : Int) then (impl_Largest.l0 k t310 (t310.length : Int) 0 ((rd_T32 t310 0).f0.f0) ((rd_T32 t310 0).f0.f1) ((rd_T32 t310 0).f0.f2) ((rd_T32 t310 0).f1)) else (none)))
theorem impl_Largest.mono_l : ∀ k, (∀ y0 y1 y2 y3 y4 y5 y6, LeO (impl_Largest.l0 k y0 y1 y2 y3 y4 y5 y6) (impl_Largest.l0 (k + 1) y0 y1 y2 y3 y4 y5 y6))
 | 0 => fun _ _ _ _ _ _ _ r h => by simp [impl_Largest.l0] at h
 | k + 1 => by
  have ih0 := impl_Largest.mono_l k
  ·intro y0 y1 y2 y3 y4 y5 y6
   unfold impl_Largest.l0
   repeat' first
   | (with_reducible exact ih0 _ _ _ _ _ _ _)
   | (with_reducible exact impl_Without.mono _ _ _ _ _ _)
   | (with_reducible exact LeO.refl _)
   | (with_reducible exact LeO.none _)
   | (with_reducible refine LeO.ite ?_ ?_)
   | (with_reducible refine LeO.bind ?_ (fun _ => ?_))
   | exact ih0 _ _ _ _ _ _ _
   | exact impl_Without.mono _ _ _ _ _ _
   | exact LeO.none _
   | refine LeO.ite ?_ ?_
   | refine LeO.bind ?_ (fun _ => ?_)
theorem impl_Largest.mono : ∀ a0 a1 a2 a3 a4 k, LeO (impl_Largest.f k a0 a1 a2 a3 a4) (impl_Largest.f (k + 1) a0 a1 a2 a3 a4) := by
 intro a0 a1 a2 a3 a4 k
 have ih0 := impl_Largest.mono_l k
 unfold impl_Largest.f
 repeat' first
   | (with_reducible exact ih0 _ _ _ _ _ _ _)
   | (with_reducible exact impl_Without.mono _ _ _ _ _ _)
   | (with_reducible exact LeO.refl _)
   | (with_reducible exact LeO.none _)
   | (with_reducible refine LeO.ite ?_ ?_)
   | (with_reducible refine LeO.bind ?_ (fun _ => ?_))
   | exact ih0 _ _ _ _ _ _ _
   | exact impl_Without.mono _ _ _ _ _ _
   | exact LeO.none _
   | refine LeO.ite ?_ ?_
   | refine LeO.bind ?_ (fun _ => ?_)
set_option maxHeartbeats 8000000 in
set_option maxRecDepth 100000 in
theorem impl_Largest.calls (k : Nat) (a0_0 : Bool) (a0_1 : Int) (a0_2 : Int) (a0_3 : Int) (A1 : Option Addr) (c1 : Nat) (l1 : List (S32)) (r1 : Bool) (r2 : Int) (r3 : Int) (r4 : Int) (r5 : Bool) (w : World) (hr1 : Kd.C k32 w A1 l1.length l1) (hc1 : l1.length ≤ c1) (h : impl_Largest.f k a0_0 a0_1 a0_2 a0_3 l1 = some (r1, r2, r3, r4, r5)) :
  Calls Try.prog 59 #[.agg #[.bool a0_0, .int .i64 a0_1, .int .i64 a0_2, .int .i64 a0_3], .slice A1 l1.length c1] w fun e w' => e = .returned (.tuple #[.agg #[.bool r1, .int .i64 r2, .int .i64 r3, .int .i64 r4], .bool r5]) ∧ Below w.heap.size w w' := by
 have hu32 := Try.underlying32
 have HR1 := Aside0.mk hr1
 have HC1 := Aside0.mk hc1
 clear hr1 hc1
 have HB := Aside0.mk (Below.refl w.heap.size w)
 have H : ((impl_Without.f k a0_0 a0_1 a0_2 a0_3 l1).bind fun t310 => (if (t310.length : Int) = 0 then (some (false, 0, 0, 0, false)) else (if 0 < (t310.length : Int) then (impl_Largest.l0 k t310 (t310.length : Int) 0 ((rd_T32 t310 0).f0.f0) ((rd_T32 t310 0).f0.f1) ((rd_T32 t310 0).f0.f2) ((rd_T32 t310 0).f1)) else (none)))) = some (r1, r2, r3, r4, r5) := h
 clear h
 replace H := Option.bind_eq_some_iff.mp H
 obtain ⟨t310, A30, H⟩ := H
 replace H : (if (t310.length : Int) = 0 then (some (false, 0, 0, 0, false)) else (if 0 < (t310.length : Int) then (impl_Largest.l0 k t310 (t310.length : Int) 0 ((rd_T32 t310 0).f0.f0) ((rd_T32 t310 0).f0.f1) ((rd_T32 t310 0).f0.f2) ((rd_T32 t310 0).f1)) else (none))) = some (r1, r2, r3, r4, r5) := H
 have A3 := Aside0.mk A30
 clear A30
 by_cases c4 : (t310.length : Int) = 0
 ·rw [if_pos c4] at H
  have c4b0 : ((t310.length : Int) == 0) = true := beq_iff_eq.mpr c4
  have c4b1 : ((t310.length : Int) != 0) = false := bne_eq_false_iff_eq.mpr c4
  clear c4
  simp only [Option.some.injEq, Prod.mk.injEq] at H
  obtain ⟨rfl, rfl, rfl, rfl, rfl⟩ := H
  go_enter Try.func59, Try.ntmps59
  go_wp2_with (first | ((with_reducible refine gate_dst (N := 2) rfl ?_); refine box_event ?hg (N := 2) ?hd (cs := #[.bool a0_0, .int .i64 a0_1, .int .i64 a0_2, .int .i64 a0_3]) (t := 32) ?hr ?_; (case hd => rfl); (case hg => rfl); (case hr => first | (go_simp; done) | (go_simp; rfl)); intro gb308 hg w5 hbox hb; have n0_ := Aside0.mk (below_step (hb_ HB.out) hb); have n1_ := Aside0.mk (hbox); have n2_ := bg_ hg (below_size (hb_ HB.out)); have n3_ := bg_ hg (below_size (hb_ HB.out)); clear HB; have HB := n0_; have BK308 := n1_; have GW308 := n2_; have GE308 := n3_; clear n0_ n1_ n2_ n3_; clear hb hbox hg) | ((with_reducible refine gate_dst (N := 4) rfl ?_); refine box_event ?hg (N := 4) ?hd (cs := #[.bool false, .int .i64 0, .int .i64 0, .int .i64 0]) (t := 32) ?hr ?_; (case hd => rfl); (case hg => rfl); (case hr => first | (go_simp; done) | (go_simp; rfl)); intro gb309 hg w6 hbox hb; have n0_ := Aside0.mk (blk_below (bk_ BK308.out) hb); have n1_ := Aside0.mk (below_step (hc_ HB.out GE308.out) hb); have n2_ := Aside0.mk (hbox); have n3_ := bg_ hg (below_size (hc_ HB.out GE308.out)); have n4_ := bg_ hg (below_size (hc_ HB.out GE308.out)); have n5_ := bn_ hg (blk_lt (bk_ BK308.out)); have n6_ := bm_ hg (blk_lt (bk_ BK308.out)); clear BK308; clear HB; have BK308 := n0_; have HB := n1_; have BK309 := n2_; have GW309 := n3_; have GE309 := n4_; have NB308_309 := n5_; have NB309_308 := n6_; clear n0_ n1_ n2_ n3_ n4_ n5_ n6_; clear hb hbox hg; have hnb7 := NB308_309.out; have hnc7 := NB309_308.out; obtain ⟨hcz8_0, hcz8_1, hcz8_2, hcz8_3, hfz8_0, hfz8_1, hfz8_2, hfz8_3⟩ := bc4_ BK308.out) | ((with_reducible refine gate_callee (f := 112) rfl ?_); refine goesL_ (some 12) rfl rfl Try.func112 (by kernel_rfl) rfl #[.agg #[.bool a0_0, .int .i64 a0_1, .int .i64 a0_2, .int .i64 a0_3], .slice A1 l1.length c1] rfl al_ ?_; (with_reducible refine (impl_Without.calls k a0_0 a0_1 a0_2 a0_3 _ _ l1 t310 _ ?side1 ?side2 A3.out).mono ?_); (case side1 => repeat (first | exact (Kd.C_below HR1.out HB.out) | (with_reducible refine Kd.C_alloc ?_ _) | (with_reducible refine Kd.C_drewN ?_ _) | (with_reducible refine Kd.C_drew ?_))); (case side2 => exact HC1.out); rintro e w9 ⟨v311, rfl, ho0, hb⟩; refine ⟨_, rfl, ?_⟩; have n0_ := Aside0.mk (Kd.R_lower (Kd.R_newB (Kd.R_newB ho0 (g := gb308) (o := .cells #[.bool a0_0, .int .i64 a0_1, .int .i64 a0_2, .int .i64 a0_3] 32 (0, 0)) (bk_ BK308.out)) (g := gb309) (o := .cells #[.bool false, .int .i64 0, .int .i64 0, .int .i64 0] 32 (0, 0)) (bk_ BK309.out)) (below_size (hd_ HB.out GE308.out GE309.out))); have n1_ := Aside0.mk (blk_below (bk_ BK308.out) hb); have n2_ := Aside0.mk (blk_below (bk_ BK309.out) hb); have n3_ := Aside0.mk (below_step (hd_ HB.out GE308.out GE309.out) hb); clear BK308; clear BK309; clear HB; have HO312 := n0_; have BK308 := n1_; have BK309 := n2_; have HB := n3_; clear n0_ n1_ n2_ n3_; (try clear hb); (try clear hb2); (try clear hk); (try clear hi); (try clear ho0); obtain ⟨Ao10, co10, eo10⟩ := Kd.R_slice HO312.out; subst eo10; obtain ⟨hcz11_0, hcz11_1, hcz11_2, hcz11_3, hfz11_0, hfz11_1, hfz11_2, hfz11_3⟩ := bc4_ BK309.out))
  refine bodyPost_ret (results_ct rfl _ _ gb309 32 #[.bool false, .int .i64 0, .int .i64 0, .int .i64 0] (0, 0) _ rfl (by refine bk_ ?_; refine blk_put (cs := #[.bool false, .int .i64 0, .int .i64 0, .int .i64 0]) ?_ 3 _ rfl; refine bk_ ?_; refine blk_put (cs := #[.bool false, .int .i64 0, .int .i64 0, .int .i64 0]) ?_ 2 _ rfl; refine bk_ ?_; refine blk_put (cs := #[.bool false, .int .i64 0, .int .i64 0, .int .i64 0]) ?_ 1 _ rfl; refine bk_ ?_; refine blk_put (cs := #[.bool false, .int .i64 0, .int .i64 0, .int .i64 0]) ?_ 0 _ rfl; refine bk_ ?_; exact BK309.out) Try.underlying32 rfl (by kernel_rfl)) rfl ?_
  exact ⟨pe_, hd_ HB.out GE308.out GE309.out⟩
 ·rw [if_neg c4] at H
  have c4b0 : ((t310.length : Int) == 0) = false := beq_eq_false_iff_ne.mpr c4
  have c4b1 : ((t310.length : Int) != 0) = true := bne_iff_ne.mpr c4
  have c4b2 : ¬ (t310 = []) := fun h_ => c4 (by rw [h_]; rfl)
  by_cases c12 : 0 < (t310.length : Int)
  ·rw [if_pos c12] at H
   have c12b0 : decide (0 < (t310.length : Int)) = true := decide_eq_true c12
   have c12b1 : decide (0 < t310.length) = true := decide_eq_true (by omega)
   clear c12
   have H' := Aside0.mk H
   clear H
   go_enter Try.func59, Try.ntmps59
   go_wp2_with (first | ((with_reducible refine gate_dst (N := 2) rfl ?_); refine box_event ?hg (N := 2) ?hd (cs := #[.bool a0_0, .int .i64 a0_1, .int .i64 a0_2, .int .i64 a0_3]) (t := 32) ?hr ?_; (case hd => rfl); (case hg => rfl); (case hr => first | (go_simp; done) | (go_simp; rfl)); intro gb308 hg w13 hbox hb; have n0_ := Aside0.mk (below_step (hb_ HB.out) hb); have n1_ := Aside0.mk (hbox); have n2_ := bg_ hg (below_size (hb_ HB.out)); have n3_ := bg_ hg (below_size (hb_ HB.out)); clear HB; have HB := n0_; have BK308 := n1_; have GW308 := n2_; have GE308 := n3_; clear n0_ n1_ n2_ n3_; clear hb hbox hg) | ((with_reducible refine gate_dst (N := 4) rfl ?_); refine box_event ?hg (N := 4) ?hd (cs := #[.bool false, .int .i64 0, .int .i64 0, .int .i64 0]) (t := 32) ?hr ?_; (case hd => rfl); (case hg => rfl); (case hr => first | (go_simp; done) | (go_simp; rfl)); intro gb309 hg w14 hbox hb; have n0_ := Aside0.mk (blk_below (bk_ BK308.out) hb); have n1_ := Aside0.mk (below_step (hc_ HB.out GE308.out) hb); have n2_ := Aside0.mk (hbox); have n3_ := bg_ hg (below_size (hc_ HB.out GE308.out)); have n4_ := bg_ hg (below_size (hc_ HB.out GE308.out)); have n5_ := bn_ hg (blk_lt (bk_ BK308.out)); have n6_ := bm_ hg (blk_lt (bk_ BK308.out)); clear BK308; clear HB; have BK308 := n0_; have HB := n1_; have BK309 := n2_; have GW309 := n3_; have GE309 := n4_; have NB308_309 := n5_; have NB309_308 := n6_; clear n0_ n1_ n2_ n3_ n4_ n5_ n6_; clear hb hbox hg; have hnb15 := NB308_309.out; have hnc15 := NB309_308.out; obtain ⟨hcz16_0, hcz16_1, hcz16_2, hcz16_3, hfz16_0, hfz16_1, hfz16_2, hfz16_3⟩ := bc4_ BK308.out) | ((with_reducible refine gate_callee (f := 112) rfl ?_); refine goesL_ (some 12) rfl rfl Try.func112 (by kernel_rfl) rfl #[.agg #[.bool a0_0, .int .i64 a0_1, .int .i64 a0_2, .int .i64 a0_3], .slice A1 l1.length c1] rfl al_ ?_; (with_reducible refine (impl_Without.calls k a0_0 a0_1 a0_2 a0_3 _ _ l1 t310 _ ?side1 ?side2 A3.out).mono ?_); (case side1 => repeat (first | exact (Kd.C_below HR1.out HB.out) | (with_reducible refine Kd.C_alloc ?_ _) | (with_reducible refine Kd.C_drewN ?_ _) | (with_reducible refine Kd.C_drew ?_))); (case side2 => exact HC1.out); rintro e w17 ⟨v311, rfl, ho0, hb⟩; refine ⟨_, rfl, ?_⟩; have n0_ := Aside0.mk (Kd.R_lower (Kd.R_newB (Kd.R_newB ho0 (g := gb308) (o := .cells #[.bool a0_0, .int .i64 a0_1, .int .i64 a0_2, .int .i64 a0_3] 32 (0, 0)) (bk_ BK308.out)) (g := gb309) (o := .cells #[.bool false, .int .i64 0, .int .i64 0, .int .i64 0] 32 (0, 0)) (bk_ BK309.out)) (below_size (hd_ HB.out GE308.out GE309.out))); have n1_ := Aside0.mk (blk_below (bk_ BK308.out) hb); have n2_ := Aside0.mk (blk_below (bk_ BK309.out) hb); have n3_ := Aside0.mk (below_step (hd_ HB.out GE308.out GE309.out) hb); clear BK308; clear BK309; clear HB; have HO312 := n0_; have BK308 := n1_; have BK309 := n2_; have HB := n3_; clear n0_ n1_ n2_ n3_; (try clear hb); (try clear hb2); (try clear hk); (try clear hi); (try clear ho0); obtain ⟨Ao18, co18, eo18⟩ := Kd.R_slice HO312.out; subst eo18; have p313 : 0 ≤ (0 : Int) := (by omega); have q313 : 0 < (t310.length : Int) := of_decide_eq_true pa_; obtain ⟨ad313, e313, hx313_0, hx313_1, hx313_2, hx313_3⟩ := at_T32 (Kd.R_reads' HO312.out).2.2 0 p313 q313; cases e313; have qi313 : (0 < t310.length) = True := eq_true (by omega); (try rw [show ((0 : Int)).toNat = 0 from rfl] at hx313_0); (try rw [show 0 * 4 = 0 from rfl] at hx313_0); (try rw [Addr.add_zero'] at hx313_0); (try rw [show ((0 : Int)).toNat = 0 from rfl] at hx313_1); (try rw [show 0 * 4 = 0 from rfl] at hx313_1); (try rw [Addr.add_zero'] at hx313_1); (try rw [show ((0 : Int)).toNat = 0 from rfl] at hx313_2); (try rw [show 0 * 4 = 0 from rfl] at hx313_2); (try rw [Addr.add_zero'] at hx313_2); (try rw [show ((0 : Int)).toNat = 0 from rfl] at hx313_3); (try rw [show 0 * 4 = 0 from rfl] at hx313_3); (try rw [Addr.add_zero'] at hx313_3); replace p313 := eq_true p313; replace q313 := eq_true q313) | ((with_reducible refine gate_dst (N := 7) rfl ?_); refine box_event ?hg (N := 7) ?hd (cs := #[.bool false, .int .i64 0, .int .i64 0, .int .i64 0]) (t := 32) ?hr ?_; (case hd => rfl); (case hg => rfl); (case hr => first | (go_simp; done) | (go_simp; rfl)); intro gb314 hg w19 hbox hb; have n0_ := Aside0.mk (Kd.R_below (Kd.R_elderB (by (with_reducible repeat (first | apply Kd.R_alloc | apply Kd.R_drewN | apply Kd.R_drew)); exact HO312.out) gb314 (Nat.le_of_eq hg.symm)) hb); have n1_ := Aside0.mk (blk_below (bk_ BK308.out) hb); have n2_ := Aside0.mk (blk_below (bk_ BK309.out) hb); have n3_ := Aside0.mk (below_step (hd_ HB.out GE308.out GE309.out) hb); have n4_ := Aside0.mk (hbox); have n5_ := bg_ hg (below_size (hd_ HB.out GE308.out GE309.out)); have n6_ := bg_ hg (below_size (hd_ HB.out GE308.out GE309.out)); have n7_ := bn_ hg (blk_lt (bk_ BK308.out)); have n8_ := bm_ hg (blk_lt (bk_ BK308.out)); have n9_ := bn_ hg (blk_lt (bk_ BK309.out)); have n10_ := bm_ hg (blk_lt (bk_ BK309.out)); clear HO312; clear BK308; clear BK309; clear HB; have HO312 := n0_; have BK308 := n1_; have BK309 := n2_; have HB := n3_; have BK314 := n4_; have GW314 := n5_; have GE314 := n6_; have NB308_314 := n7_; have NB314_308 := n8_; have NB309_314 := n9_; have NB314_309 := n10_; clear n0_ n1_ n2_ n3_ n4_ n5_ n6_ n7_ n8_ n9_ n10_; clear hb hbox hg; have hnb20 := NB314_308.out; have hnc20 := NB308_314.out; have hnb21 := NB314_309.out; have hnc21 := NB309_314.out; obtain ⟨hcz22_0, hcz22_1, hcz22_2, hcz22_3, hfz22_0, hfz22_1, hfz22_2, hfz22_3⟩ := bc4_ BK314.out))
   go_loopg [22] k (fun kq v22 w' => ∃ (x22_1 : Int) (x315000_1 : Bool) (x315001_1 : Int) (x315002_1 : Int) (x315003_1 : Int), v22 = .int .i64 x22_1 ∧ Aside0 (impl_Largest.l0 kq t310 (t310.length : Int) x22_1 x315000_1 x315001_1 x315002_1 x315003_1 = some (r1, r2, r3, r4, r5)) ∧ Aside0 (kq ≤ k) ∧ Aside0 (Kd.R k32 32 w' w.heap.size (fun k_ => k_ ≠ gb308 ∧ k_ ≠ gb309 ∧ k_ ≠ gb314) (.slice (some ad313) t310.length co18) t310) ∧ Aside0 (w'.heap[gb308]? = some (.cells #[.bool a0_0, .int .i64 a0_1, .int .i64 a0_2, .int .i64 a0_3] 32 (0, 0))) ∧ Aside0 (w'.heap[gb309]? = some (.cells #[.bool false, .int .i64 0, .int .i64 0, .int .i64 0] 32 (0, 0))) ∧ Aside0 (w'.heap[gb314]? = some (.cells #[.bool x315000_1, .int .i64 x315001_1, .int .i64 x315002_1, .int .i64 x315003_1] 32 (0, 0))) ∧ Aside0 (Below w.heap.size w w'))
   case atStart => exact ⟨(0), ((rd_T32 t310 0).f0.f0), ((rd_T32 t310 0).f0.f1), ((rd_T32 t310 0).f0.f2), ((rd_T32 t310 0).f1), (by first | rfl | (simp; done) | (simp [*]; done)), H', ⟨Nat.le_refl _⟩, ⟨by (with_reducible repeat (first | apply Kd.R_alloc | apply Kd.R_drewN | apply Kd.R_drew)); exact Kd.R_mono (Kd.R_far (p := ⟨gb314, 3, none⟩) (Kd.R_far (p := ⟨gb314, 2, none⟩) (Kd.R_far (p := ⟨gb314, 1, none⟩) (Kd.R_far (p := ⟨gb314, 0, none⟩) (Kd.R_mono HO312.out (fun k_ hk => (⟨hk, hk.2⟩ : _ ∧ k_ ≠ gb314))) (fun _ hk => hk.2) (.bool ((rd_T32 t310 0).f0.f0))) (fun _ hk => hk.2) (.int .i64 ((rd_T32 t310 0).f0.f1))) (fun _ hk => hk.2) (.int .i64 ((rd_T32 t310 0).f0.f2))) (fun _ hk => hk.2) (.int .i64 ((rd_T32 t310 0).f1))) (fun _ hk => ⟨hk.1.1.1.2, ⟨hk.1.1.2, hk.1.2⟩⟩)⟩, ⟨by refine bk_ ?_; refine blk_far ?_ NB308_314.out _; refine bk_ ?_; refine blk_far ?_ NB308_314.out _; refine bk_ ?_; refine blk_far ?_ NB308_314.out _; refine bk_ ?_; refine blk_far ?_ NB308_314.out _; refine bk_ ?_; exact BK308.out⟩, ⟨by refine bk_ ?_; refine blk_far ?_ NB309_314.out _; refine bk_ ?_; refine blk_far ?_ NB309_314.out _; refine bk_ ?_; refine blk_far ?_ NB309_314.out _; refine bk_ ?_; refine blk_far ?_ NB309_314.out _; refine bk_ ?_; exact BK309.out⟩, ⟨by refine bk_ ?_; refine blk_put (cs := #[.bool ((rd_T32 t310 0).f0.f0), .int .i64 ((rd_T32 t310 0).f0.f1), .int .i64 ((rd_T32 t310 0).f0.f2), .int .i64 0]) ?_ 3 _ rfl; refine bk_ ?_; refine blk_put (cs := #[.bool ((rd_T32 t310 0).f0.f0), .int .i64 ((rd_T32 t310 0).f0.f1), .int .i64 0, .int .i64 0]) ?_ 2 _ rfl; refine bk_ ?_; refine blk_put (cs := #[.bool ((rd_T32 t310 0).f0.f0), .int .i64 0, .int .i64 0, .int .i64 0]) ?_ 1 _ rfl; refine bk_ ?_; refine blk_put (cs := #[.bool false, .int .i64 0, .int .i64 0, .int .i64 0]) ?_ 0 _ rfl; refine bk_ ?_; exact BK314.out⟩, ⟨by repeat (first | (with_reducible first | exact HB.out | apply below_alloc | apply pw_below_drewN | apply below_drew1 | refine below_set ?_ GE308.out | refine below_set ?_ GE309.out | refine below_set ?_ GE314.out) | exact HB.out)⟩⟩
   case round =>
    clear H'
    try clear c1
    try clear c2
    try clear p2
    try clear p3
    try clear q3
    try clear hx3
    try clear qi3
    try clear c4
    try clear c4b0
    try clear c4b1
    try clear c4b2
    try clear c5
    try clear c7
    try clear c11
    try clear c12
    try clear c12b0
    try clear c12b1
    try clear c15
    try clear c20
    try clear c21
    try clear hcz11_0
    try clear hcz11_1
    try clear hcz11_2
    try clear hcz11_3
    try clear hcz16_0
    try clear hcz16_1
    try clear hcz16_2
    try clear hcz16_3
    try clear hcz22_0
    try clear hcz22_1
    try clear hcz22_2
    try clear hcz22_3
    try clear hcz8_0
    try clear hcz8_1
    try clear hcz8_2
    try clear hcz8_3
    try clear hfz11_0
    try clear hfz11_1
    try clear hfz11_2
    try clear hfz11_3
    try clear hfz16_0
    try clear hfz16_1
    try clear hfz16_2
    try clear hfz16_3
    try clear hfz22_0
    try clear hfz22_1
    try clear hfz22_2
    try clear hfz22_3
    try clear hfz8_0
    try clear hfz8_1
    try clear hfz8_2
    try clear hfz8_3
    try clear hx313_0
    try clear hx313_1
    try clear hx313_2
    try clear hx313_3
    try clear p313
    try clear q313
    obtain ⟨x22_1, x315000_1, x315001_1, x315002_1, x315003_1, rfl, HA, HK1, HO_20, BK308, BK309, BK314, HB⟩ := hrel
    cases gk with
    | zero => exact absurd HA.out (by simp [impl_Largest.l0])
    | succ k1 =>
     have H := HA.out
     clear HA
     simp only [impl_Largest.l0] at H
     by_cases c23 : x22_1 < (t310.length : Int)
     ·rw [if_pos c23] at H
      have c23b0 : decide (x22_1 < (t310.length : Int)) = true := decide_eq_true c23
      clear c23
      by_cases c24 : 0 ≤ x22_1
      ·rw [if_pos c24] at H
       have c24b0 : decide (0 ≤ x22_1) = true := decide_eq_true c24
       clear c24
       by_cases c25 : x22_1 < (t310.length : Int)
       ·rw [if_pos c25] at H
        have c25b0 : decide (x22_1 < (t310.length : Int)) = true := decide_eq_true c25
        clear c25
        by_cases c26 : ((rd_T32 t310 x22_1).f1) < x315003_1
        ·rw [if_pos c26] at H
         have c26b0 : decide (((rd_T32 t310 x22_1).f1) < x315003_1) = true := decide_eq_true c26
         clear c26
         have H' := Aside0.mk H
         clear H
         have p315 : 0 ≤ (x22_1 : Int) := of_decide_eq_true pa_
         have q315 : x22_1 < (t310.length : Int) := of_decide_eq_true pa_
         obtain ⟨ad315, e315, hx315_0, hx315_1, hx315_2, hx315_3⟩ := at_T32 (Kd.R_reads' HO_20.out).2.2 x22_1 p315 q315
         obtain rfl : ad313 = ad315 := (by injection e315)
         replace p315 := eq_true p315
         replace q315 := eq_true q315
         go_wp2_with (first | ((with_reducible refine gate_dst (N := 9) rfl ?_); refine box_event ?hg (N := 9) ?hd (cs := #[.bool false, .int .i64 0, .int .i64 0, .int .i64 0]) (t := 32) ?hr ?_; (case hd => rfl); (case hg => rfl); (case hr => first | (go_simp; done) | (go_simp; rfl)); intro gb316 hg w27 hbox hb; have n0_ := Aside0.mk (Kd.R_below (Kd.R_elderB (by (with_reducible repeat (first | apply Kd.R_alloc | apply Kd.R_drewN | apply Kd.R_drew)); exact HO_20.out) gb316 (Nat.le_of_eq hg.symm)) hb); have n1_ := Aside0.mk (blk_below (bk_ BK308.out) hb); have n2_ := Aside0.mk (blk_below (bk_ BK309.out) hb); have n3_ := Aside0.mk (blk_below (bk_ BK314.out) hb); have n4_ := Aside0.mk (below_step (by repeat (first | (with_reducible first | exact HB.out | apply below_alloc | apply pw_below_drewN | apply below_drew1 | refine below_set ?_ GE308.out | refine below_set ?_ GE309.out | refine below_set ?_ GE314.out) | exact HB.out)) hb); have n5_ := Aside0.mk (hbox); have n6_ := Aside0.mk ((by rw [hg]; exact (below_size (by repeat (first | (with_reducible first | exact HB.out | apply below_alloc | apply pw_below_drewN | apply below_drew1 | refine below_set ?_ GE308.out | refine below_set ?_ GE309.out | refine below_set ?_ GE314.out) | exact HB.out))) : w.heap.size ≤ gb316)); have n7_ := Aside0.mk ((by rw [hg]; exact (below_size (by repeat (first | (with_reducible first | exact HB.out | apply below_alloc | apply pw_below_drewN | apply below_drew1 | refine below_set ?_ GE308.out | refine below_set ?_ GE309.out | refine below_set ?_ GE314.out) | exact HB.out))) : w.heap.size ≤ gb316)); have n8_ := bn_ hg (blk_lt (bk_ BK308.out)); have n9_ := bm_ hg (blk_lt (bk_ BK308.out)); have n10_ := bn_ hg (blk_lt (bk_ BK309.out)); have n11_ := bm_ hg (blk_lt (bk_ BK309.out)); have n12_ := bn_ hg (blk_lt (bk_ BK314.out)); have n13_ := bm_ hg (blk_lt (bk_ BK314.out)); clear HO_20; clear BK308; clear BK309; clear BK314; clear HB; have HO_20 := n0_; have BK308 := n1_; have BK309 := n2_; have BK314 := n3_; have HB := n4_; have BK316 := n5_; have GW316 := n6_; have GE316 := n7_; have NB308_316 := n8_; have NB316_308 := n9_; have NB309_316 := n10_; have NB316_309 := n11_; have NB314_316 := n12_; have NB316_314 := n13_; clear n0_ n1_ n2_ n3_ n4_ n5_ n6_ n7_ n8_ n9_ n10_ n11_ n12_ n13_; clear hb hbox hg; have hnb28 := NB316_308.out; have hnc28 := NB308_316.out; have hnb29 := NB316_309.out; have hnc29 := NB309_316.out; have hnb30 := NB316_314.out; have hnc30 := NB314_316.out; obtain ⟨hcz31_0, hcz31_1, hcz31_2, hcz31_3, hfz31_0, hfz31_1, hfz31_2, hfz31_3⟩ := bc4_ BK316.out; have hnb32 := NB314_308.out; have hnc32 := NB308_314.out; have hnb33 := NB314_309.out; have hnc33 := NB309_314.out; obtain ⟨hcz34_0, hcz34_1, hcz34_2, hcz34_3, hfz34_0, hfz34_1, hfz34_2, hfz34_3⟩ := bc4_ BK314.out))
         go_roundg k1
         case measure => have := HK1.out; omega
         case rel => exact ⟨(wrap64 (x22_1 + 1)), ((rd_T32 t310 x22_1).f0.f0), ((rd_T32 t310 x22_1).f0.f1), ((rd_T32 t310 x22_1).f0.f2), ((rd_T32 t310 x22_1).f1), (by first | rfl | (simp; done) | (simp [*]; done)), H', ⟨by have := HK1.out; omega⟩, ⟨by (with_reducible repeat (first | apply Kd.R_alloc | apply Kd.R_drewN | apply Kd.R_drew)); exact Kd.R_mono (Kd.R_far (p := ⟨gb314, 3, none⟩) (Kd.R_far (p := ⟨gb314, 2, none⟩) (Kd.R_far (p := ⟨gb314, 1, none⟩) (Kd.R_far (p := ⟨gb314, 0, none⟩) (Kd.R_far (p := ⟨gb316, 3, none⟩) (Kd.R_far (p := ⟨gb316, 2, none⟩) (Kd.R_far (p := ⟨gb316, 1, none⟩) (Kd.R_far (p := ⟨gb316, 0, none⟩) (Kd.R_mono (Kd.R_mono HO_20.out (fun k_ hk => (⟨hk, hk.2⟩ : _ ∧ k_ ≠ gb316))) (fun k_ hk => (⟨hk, hk.1.1.2.2⟩ : _ ∧ k_ ≠ gb314))) (fun _ hk => hk.1.2) (.bool ((rd_T32 t310 x22_1).f0.f0))) (fun _ hk => hk.1.2) (.int .i64 ((rd_T32 t310 x22_1).f0.f1))) (fun _ hk => hk.1.2) (.int .i64 ((rd_T32 t310 x22_1).f0.f2))) (fun _ hk => hk.1.2) (.int .i64 ((rd_T32 t310 x22_1).f1))) (fun _ hk => hk.2) (.bool ((rd_T32 t310 x22_1).f0.f0))) (fun _ hk => hk.2) (.int .i64 ((rd_T32 t310 x22_1).f0.f1))) (fun _ hk => hk.2) (.int .i64 ((rd_T32 t310 x22_1).f0.f2))) (fun _ hk => hk.2) (.int .i64 ((rd_T32 t310 x22_1).f1))) (fun _ hk => ⟨hk.1.1.1.1, ⟨hk.1.1.1.2.1, hk.1.1.1.2.2⟩⟩)⟩, ⟨by refine bk_ ?_; refine blk_far ?_ NB308_314.out _; refine bk_ ?_; refine blk_far ?_ NB308_314.out _; refine bk_ ?_; refine blk_far ?_ NB308_314.out _; refine bk_ ?_; refine blk_far ?_ NB308_314.out _; refine bk_ ?_; refine blk_far ?_ NB308_316.out _; refine bk_ ?_; refine blk_far ?_ NB308_316.out _; refine bk_ ?_; refine blk_far ?_ NB308_316.out _; refine bk_ ?_; refine blk_far ?_ NB308_316.out _; refine bk_ ?_; exact BK308.out⟩, ⟨by refine bk_ ?_; refine blk_far ?_ NB309_314.out _; refine bk_ ?_; refine blk_far ?_ NB309_314.out _; refine bk_ ?_; refine blk_far ?_ NB309_314.out _; refine bk_ ?_; refine blk_far ?_ NB309_314.out _; refine bk_ ?_; refine blk_far ?_ NB309_316.out _; refine bk_ ?_; refine blk_far ?_ NB309_316.out _; refine bk_ ?_; refine blk_far ?_ NB309_316.out _; refine bk_ ?_; refine blk_far ?_ NB309_316.out _; refine bk_ ?_; exact BK309.out⟩, ⟨by refine bk_ ?_; refine blk_put (cs := #[.bool ((rd_T32 t310 x22_1).f0.f0), .int .i64 ((rd_T32 t310 x22_1).f0.f1), .int .i64 ((rd_T32 t310 x22_1).f0.f2), .int .i64 x315003_1]) ?_ 3 _ rfl; refine bk_ ?_; refine blk_put (cs := #[.bool ((rd_T32 t310 x22_1).f0.f0), .int .i64 ((rd_T32 t310 x22_1).f0.f1), .int .i64 x315002_1, .int .i64 x315003_1]) ?_ 2 _ rfl; refine bk_ ?_; refine blk_put (cs := #[.bool ((rd_T32 t310 x22_1).f0.f0), .int .i64 x315001_1, .int .i64 x315002_1, .int .i64 x315003_1]) ?_ 1 _ rfl; refine bk_ ?_; refine blk_put (cs := #[.bool x315000_1, .int .i64 x315001_1, .int .i64 x315002_1, .int .i64 x315003_1]) ?_ 0 _ rfl; refine bk_ ?_; refine blk_far ?_ NB314_316.out _; refine bk_ ?_; refine blk_far ?_ NB314_316.out _; refine bk_ ?_; refine blk_far ?_ NB314_316.out _; refine bk_ ?_; refine blk_far ?_ NB314_316.out _; refine bk_ ?_; exact BK314.out⟩, ⟨by repeat (first | (with_reducible first | exact HB.out | apply below_alloc | apply pw_below_drewN | apply below_drew1 | refine below_set ?_ GE308.out | refine below_set ?_ GE309.out | refine below_set ?_ GE314.out | refine below_set ?_ GE316.out) | exact HB.out)⟩⟩
        ·rw [if_neg c26] at H
         have c26b0 : decide (((rd_T32 t310 x22_1).f1) < x315003_1) = false := decide_eq_false c26
         clear c26
         have H' := Aside0.mk H
         clear H
         have p315 : 0 ≤ (x22_1 : Int) := of_decide_eq_true pa_
         have q315 : x22_1 < (t310.length : Int) := of_decide_eq_true pa_
         obtain ⟨ad315, e315, hx315_0, hx315_1, hx315_2, hx315_3⟩ := at_T32 (Kd.R_reads' HO_20.out).2.2 x22_1 p315 q315
         obtain rfl : ad313 = ad315 := (by injection e315)
         replace p315 := eq_true p315
         replace q315 := eq_true q315
         go_wp2_with (first | ((with_reducible refine gate_dst (N := 9) rfl ?_); refine box_event ?hg (N := 9) ?hd (cs := #[.bool false, .int .i64 0, .int .i64 0, .int .i64 0]) (t := 32) ?hr ?_; (case hd => rfl); (case hg => rfl); (case hr => first | (go_simp; done) | (go_simp; rfl)); intro gb316 hg w35 hbox hb; have n0_ := Aside0.mk (Kd.R_below (Kd.R_elderB (by (with_reducible repeat (first | apply Kd.R_alloc | apply Kd.R_drewN | apply Kd.R_drew)); exact HO_20.out) gb316 (Nat.le_of_eq hg.symm)) hb); have n1_ := Aside0.mk (blk_below (bk_ BK308.out) hb); have n2_ := Aside0.mk (blk_below (bk_ BK309.out) hb); have n3_ := Aside0.mk (blk_below (bk_ BK314.out) hb); have n4_ := Aside0.mk (below_step (by repeat (first | (with_reducible first | exact HB.out | apply below_alloc | apply pw_below_drewN | apply below_drew1 | refine below_set ?_ GE308.out | refine below_set ?_ GE309.out | refine below_set ?_ GE314.out) | exact HB.out)) hb); have n5_ := Aside0.mk (hbox); have n6_ := Aside0.mk ((by rw [hg]; exact (below_size (by repeat (first | (with_reducible first | exact HB.out | apply below_alloc | apply pw_below_drewN | apply below_drew1 | refine below_set ?_ GE308.out | refine below_set ?_ GE309.out | refine below_set ?_ GE314.out) | exact HB.out))) : w.heap.size ≤ gb316)); have n7_ := Aside0.mk ((by rw [hg]; exact (below_size (by repeat (first | (with_reducible first | exact HB.out | apply below_alloc | apply pw_below_drewN | apply below_drew1 | refine below_set ?_ GE308.out | refine below_set ?_ GE309.out | refine below_set ?_ GE314.out) | exact HB.out))) : w.heap.size ≤ gb316)); have n8_ := bn_ hg (blk_lt (bk_ BK308.out)); have n9_ := bm_ hg (blk_lt (bk_ BK308.out)); have n10_ := bn_ hg (blk_lt (bk_ BK309.out)); have n11_ := bm_ hg (blk_lt (bk_ BK309.out)); have n12_ := bn_ hg (blk_lt (bk_ BK314.out)); have n13_ := bm_ hg (blk_lt (bk_ BK314.out)); clear HO_20; clear BK308; clear BK309; clear BK314; clear HB; have HO_20 := n0_; have BK308 := n1_; have BK309 := n2_; have BK314 := n3_; have HB := n4_; have BK316 := n5_; have GW316 := n6_; have GE316 := n7_; have NB308_316 := n8_; have NB316_308 := n9_; have NB309_316 := n10_; have NB316_309 := n11_; have NB314_316 := n12_; have NB316_314 := n13_; clear n0_ n1_ n2_ n3_ n4_ n5_ n6_ n7_ n8_ n9_ n10_ n11_ n12_ n13_; clear hb hbox hg; have hnb36 := NB316_308.out; have hnc36 := NB308_316.out; have hnb37 := NB316_309.out; have hnc37 := NB309_316.out; have hnb38 := NB316_314.out; have hnc38 := NB314_316.out; obtain ⟨hcz39_0, hcz39_1, hcz39_2, hcz39_3, hfz39_0, hfz39_1, hfz39_2, hfz39_3⟩ := bc4_ BK316.out; have hnb40 := NB314_308.out; have hnc40 := NB308_314.out; have hnb41 := NB314_309.out; have hnc41 := NB309_314.out; obtain ⟨hcz42_0, hcz42_1, hcz42_2, hcz42_3, hfz42_0, hfz42_1, hfz42_2, hfz42_3⟩ := bc4_ BK314.out))
         go_roundg k1
         case measure => have := HK1.out; omega
         case rel => exact ⟨(wrap64 (x22_1 + 1)), (x315000_1), (x315001_1), (x315002_1), (x315003_1), (by first | rfl | (simp; done) | (simp [*]; done)), H', ⟨by have := HK1.out; omega⟩, ⟨by (with_reducible repeat (first | apply Kd.R_alloc | apply Kd.R_drewN | apply Kd.R_drew)); exact Kd.R_mono (Kd.R_far (p := ⟨gb316, 3, none⟩) (Kd.R_far (p := ⟨gb316, 2, none⟩) (Kd.R_far (p := ⟨gb316, 1, none⟩) (Kd.R_far (p := ⟨gb316, 0, none⟩) (Kd.R_mono HO_20.out (fun k_ hk => (⟨hk, hk.2⟩ : _ ∧ k_ ≠ gb316))) (fun _ hk => hk.2) (.bool ((rd_T32 t310 x22_1).f0.f0))) (fun _ hk => hk.2) (.int .i64 ((rd_T32 t310 x22_1).f0.f1))) (fun _ hk => hk.2) (.int .i64 ((rd_T32 t310 x22_1).f0.f2))) (fun _ hk => hk.2) (.int .i64 ((rd_T32 t310 x22_1).f1))) (fun _ hk => ⟨hk.1.1.1, ⟨hk.1.1.2.1, hk.1.1.2.2⟩⟩)⟩, ⟨by refine bk_ ?_; refine blk_far ?_ NB308_316.out _; refine bk_ ?_; refine blk_far ?_ NB308_316.out _; refine bk_ ?_; refine blk_far ?_ NB308_316.out _; refine bk_ ?_; refine blk_far ?_ NB308_316.out _; refine bk_ ?_; exact BK308.out⟩, ⟨by refine bk_ ?_; refine blk_far ?_ NB309_316.out _; refine bk_ ?_; refine blk_far ?_ NB309_316.out _; refine bk_ ?_; refine blk_far ?_ NB309_316.out _; refine bk_ ?_; refine blk_far ?_ NB309_316.out _; refine bk_ ?_; exact BK309.out⟩, ⟨by refine bk_ ?_; refine blk_far ?_ NB314_316.out _; refine bk_ ?_; refine blk_far ?_ NB314_316.out _; refine bk_ ?_; refine blk_far ?_ NB314_316.out _; refine bk_ ?_; refine blk_far ?_ NB314_316.out _; refine bk_ ?_; exact BK314.out⟩, ⟨by repeat (first | (with_reducible first | exact HB.out | apply below_alloc | apply pw_below_drewN | apply below_drew1 | refine below_set ?_ GE308.out | refine below_set ?_ GE309.out | refine below_set ?_ GE314.out | refine below_set ?_ GE316.out) | exact HB.out)⟩⟩
       ·rw [if_neg c25] at H
        exact absurd H (by simp)
      ·rw [if_neg c24] at H
       exact absurd H (by simp)
     ·rw [if_neg c23] at H
      have c23b0 : decide (x22_1 < (t310.length : Int)) = false := decide_eq_false c23
      clear c23
      simp only [Option.some.injEq, Prod.mk.injEq] at H
      obtain ⟨rfl, rfl, rfl, rfl, rfl⟩ := H
      have hnb43 := NB314_308.out
      have hnc43 := NB308_314.out
      have hnb44 := NB314_309.out
      have hnc44 := NB309_314.out
      obtain ⟨hcz45_0, hcz45_1, hcz45_2, hcz45_3, hfz45_0, hfz45_1, hfz45_2, hfz45_3⟩ := bc4_ BK314.out
      have hnb46 := NB309_308.out
      have hnc46 := NB308_309.out
      obtain ⟨hcz47_0, hcz47_1, hcz47_2, hcz47_3, hfz47_0, hfz47_1, hfz47_2, hfz47_3⟩ := bc4_ BK309.out
      go_wp2
      refine bodyPost_ret (results_ct rfl _ _ gb309 32 #[.bool x315000_1, .int .i64 x315001_1, .int .i64 x315002_1, .int .i64 x315003_1] (0, 0) _ rfl (by refine bk_ ?_; refine blk_put (cs := #[.bool x315000_1, .int .i64 x315001_1, .int .i64 x315002_1, .int .i64 0]) ?_ 3 _ rfl; refine bk_ ?_; refine blk_put (cs := #[.bool x315000_1, .int .i64 x315001_1, .int .i64 0, .int .i64 0]) ?_ 2 _ rfl; refine bk_ ?_; refine blk_put (cs := #[.bool x315000_1, .int .i64 0, .int .i64 0, .int .i64 0]) ?_ 1 _ rfl; refine bk_ ?_; refine blk_put (cs := #[.bool false, .int .i64 0, .int .i64 0, .int .i64 0]) ?_ 0 _ rfl; refine bk_ ?_; exact BK309.out) Try.underlying32 rfl (by kernel_rfl)) rfl ?_
      exact ⟨pe_, by repeat (first | (with_reducible first | exact HB.out | apply below_alloc | apply pw_below_drewN | apply below_drew1 | refine below_set ?_ GE308.out | refine below_set ?_ GE309.out | refine below_set ?_ GE314.out) | exact HB.out)⟩
  ·rw [if_neg c12] at H
   exact absurd H (by simp)

/-! ### laws_FnExactLargest: function 14 -/
def laws_FnExactLargest.j0 : Nat → List (S30) → List (S32) → Bool → Option (Bool)
 | 0, _, _, _ => none
 | k + 1, x1, x8, x41 => if x41 = true then (some false) else ((laws_toPrefixS.f k x1).bind fun t346 => ((laws_eqPrefixS.f k x8 t346).bind fun t349 => (if t349 = true then (some true) else (some false))))
def laws_FnExactLargest.f (k : Nat) (a0_0 : Bool) (a0_1 : Int) (a0_2 : Int) (a0_3 : Int) (l1 : List (S30)) : Option (Bool) := (laws_szPrefixS.f l1 1048576).bind fun t318 => (if t318 < 0 then (some true) else ((laws_toPrefix.f a0_0 a0_1 a0_2 a0_3).bind fun bt319 => ((laws_toPrefixS.f k l1).bind fun t323 => ((spec_Largest.f k bt319.1 bt319.2.1 bt319.2.2.1 bt319.2.2.2 t323).bind fun bt326 => ((laws_toPrefixS.f k l1).bind fun t332 => ((laws_toPrefix.f a0_0 a0_1 a0_2 a0_3).bind fun bt335 => ((impl_Largest.f k bt335.1 bt335.2.1 bt335.2.2.1 bt335.2.2.2 t332).bind fun bt339 => ((laws_eqPrefix.f bt339.1 bt339.2.1 bt339.2.2.1 bt339.2.2.2.1 bt326.1 bt326.2.1 bt326.2.2.1 bt326.2.2.2.1).bind fun t345 => (if t345 = true then (laws_FnExactLargest.j0 k l1 t332 (bt339.2.2.2.2 != bt326.2.2.2.2)) else (laws_FnExactLargest.j0 k l1 t332 true))))))))))
theorem laws_FnExactLargest.mono_l : ∀ k, (∀ y0 y1 y2, LeO (laws_FnExactLargest.j0 k y0 y1 y2) (laws_FnExactLargest.j0 (k + 1) y0 y1 y2))
 | 0 => fun _ _ _ r h => by simp [laws_FnExactLargest.j0] at h
 | k + 1 => by
  have ih0 := laws_FnExactLargest.mono_l k
  ·intro y0 y1 y2
   unfold laws_FnExactLargest.j0
   repeat' first
   | (with_reducible exact ih0 _ _ _)
   | (with_reducible exact impl_Largest.mono _ _ _ _ _ _)
   | (with_reducible exact laws_eqPrefixS.mono _ _ _)
   | (with_reducible exact laws_toPrefixS.mono _ _)
   | (with_reducible exact spec_Largest.mono _ _ _ _ _ _)
   | (with_reducible exact LeO.refl _)
   | (with_reducible exact LeO.none _)
   | (with_reducible refine LeO.ite ?_ ?_)
   | (with_reducible refine LeO.bind ?_ (fun _ => ?_))
   | exact ih0 _ _ _
   | exact impl_Largest.mono _ _ _ _ _ _
   | exact laws_eqPrefixS.mono _ _ _
   | exact laws_toPrefixS.mono _ _
   | exact spec_Largest.mono _ _ _ _ _ _
   | exact LeO.none _
   | refine LeO.ite ?_ ?_
   | refine LeO.bind ?_ (fun _ => ?_)
theorem laws_FnExactLargest.mono : ∀ a0 a1 a2 a3 a4 k, LeO (laws_FnExactLargest.f k a0 a1 a2 a3 a4) (laws_FnExactLargest.f (k + 1) a0 a1 a2 a3 a4) := by
 intro a0 a1 a2 a3 a4 k
 have ih0 := laws_FnExactLargest.mono_l k
 unfold laws_FnExactLargest.f
 repeat' first
   | (with_reducible exact ih0 _ _ _)
   | (with_reducible exact impl_Largest.mono _ _ _ _ _ _)
   | (with_reducible exact laws_eqPrefixS.mono _ _ _)
   | (with_reducible exact laws_toPrefixS.mono _ _)
   | (with_reducible exact spec_Largest.mono _ _ _ _ _ _)
   | (with_reducible exact LeO.refl _)
   | (with_reducible exact LeO.none _)
   | (with_reducible refine LeO.ite ?_ ?_)
   | (with_reducible refine LeO.bind ?_ (fun _ => ?_))
   | exact ih0 _ _ _
   | exact impl_Largest.mono _ _ _ _ _ _
   | exact laws_eqPrefixS.mono _ _ _
   | exact laws_toPrefixS.mono _ _
   | exact spec_Largest.mono _ _ _ _ _ _
   | exact LeO.none _
   | refine LeO.ite ?_ ?_
   | refine LeO.bind ?_ (fun _ => ?_)
set_option maxHeartbeats 8000000 in
set_option maxRecDepth 100000 in
theorem laws_FnExactLargest.calls (k : Nat) (a0_0 : Bool) (a0_1 : Int) (a0_2 : Int) (a0_3 : Int) (A1 : Option Addr) (c1 : Nat) (l1 : List (S30)) (r : Bool) (w : World) (hr1 : Kd.C k30 w A1 l1.length l1) (hc1 : l1.length ≤ c1) (h : laws_FnExactLargest.f k a0_0 a0_1 a0_2 a0_3 l1 = some r) (hlaw_ : r = true := by rfl) :
  Calls Try.prog 14 #[.agg #[.bool a0_0, .int .i64 a0_1, .int .i64 a0_2, .int .i64 a0_3], .slice A1 l1.length c1] w fun e w' => e = .returned (.bool r) ∧ Below w.heap.size w w' := by
 have HLAW := Aside0.mk hlaw_
 clear hlaw_
 have hu30 := Try.underlying30
 have hu32 := Try.underlying32
 have HR1 := Aside0.mk hr1
 have HC1 := Aside0.mk hc1
 clear hr1 hc1
 have HB := Aside0.mk (Below.refl w.heap.size w)
 have H : ((laws_szPrefixS.f l1 1048576).bind fun t318 => (if t318 < 0 then (some true) else ((laws_toPrefix.f a0_0 a0_1 a0_2 a0_3).bind fun bt319 => ((laws_toPrefixS.f k l1).bind fun t323 => ((spec_Largest.f k bt319.1 bt319.2.1 bt319.2.2.1 bt319.2.2.2 t323).bind fun bt326 => ((laws_toPrefixS.f k l1).bind fun t332 => ((laws_toPrefix.f a0_0 a0_1 a0_2 a0_3).bind fun bt335 => ((impl_Largest.f k bt335.1 bt335.2.1 bt335.2.2.1 bt335.2.2.2 t332).bind fun bt339 => ((laws_eqPrefix.f bt339.1 bt339.2.1 bt339.2.2.1 bt339.2.2.2.1 bt326.1 bt326.2.1 bt326.2.2.1 bt326.2.2.2.1).bind fun t345 => (if t345 = true then (laws_FnExactLargest.j0 k l1 t332 (bt339.2.2.2.2 != bt326.2.2.2.2)) else (laws_FnExactLargest.j0 k l1 t332 true))))))))))) = some r := h
 clear h
 replace H := Option.bind_eq_some_iff.mp H
 obtain ⟨t318, A30, H⟩ := H
 replace H : (if t318 < 0 then (some true) else ((laws_toPrefix.f a0_0 a0_1 a0_2 a0_3).bind fun bt319 => ((laws_toPrefixS.f k l1).bind fun t323 => ((spec_Largest.f k bt319.1 bt319.2.1 bt319.2.2.1 bt319.2.2.2 t323).bind fun bt326 => ((laws_toPrefixS.f k l1).bind fun t332 => ((laws_toPrefix.f a0_0 a0_1 a0_2 a0_3).bind fun bt335 => ((impl_Largest.f k bt335.1 bt335.2.1 bt335.2.2.1 bt335.2.2.2 t332).bind fun bt339 => ((laws_eqPrefix.f bt339.1 bt339.2.1 bt339.2.2.1 bt339.2.2.2.1 bt326.1 bt326.2.1 bt326.2.2.1 bt326.2.2.2.1).bind fun t345 => (if t345 = true then (laws_FnExactLargest.j0 k l1 t332 (bt339.2.2.2.2 != bt326.2.2.2.2)) else (laws_FnExactLargest.j0 k l1 t332 true)))))))))) = some r := H
 have A3 := Aside0.mk A30
 clear A30
 by_cases c4 : t318 < 0
 ·rw [if_pos c4] at H
  have c4b0 : decide (t318 < 0) = true := decide_eq_true c4
  clear c4
  obtain rfl := Option.some.inj H
  go_enter Try.func14, Try.ntmps14
  go_wp2_with (first | ((with_reducible refine gate_dst (N := 2) rfl ?_); refine box_event ?hg (N := 2) ?hd (cs := #[.bool a0_0, .int .i64 a0_1, .int .i64 a0_2, .int .i64 a0_3]) (t := 30) ?hr ?_; (case hd => rfl); (case hg => rfl); (case hr => first | (go_simp; done) | (go_simp; rfl)); intro gb317 hg w5 hbox hb; have n0_ := Aside0.mk (below_step (hb_ HB.out) hb); have n1_ := Aside0.mk (hbox); have n2_ := bg_ hg (below_size (hb_ HB.out)); have n3_ := bg_ hg (below_size (hb_ HB.out)); clear HB; have HB := n0_; have BK317 := n1_; have GW317 := n2_; have GE317 := n3_; clear n0_ n1_ n2_ n3_; clear hb hbox hg) | ((with_reducible refine gate_callee (f := 53) rfl ?_); refine goesL_ (some 13) rfl rfl Try.func53 (by kernel_rfl) rfl #[.slice A1 l1.length c1, .int .i64 1048576] rfl al_ ?_; (with_reducible refine (laws_szPrefixS.calls _ _ l1 1048576 t318 _ ?side1 ?side2 A3.out).mono ?_); (case side1 => repeat (first | exact (Kd.C_below HR1.out HB.out) | (with_reducible refine Kd.C_alloc ?_ _) | (with_reducible refine Kd.C_drewN ?_ _) | (with_reducible refine Kd.C_drew ?_))); (case side2 => exact HC1.out); rintro e w' ⟨rfl, ⟨nd, rfl⟩⟩; refine ⟨_, rfl, ?_⟩))
  go_ret
  exact ⟨pe_, hc_ HB.out GE317.out⟩
 ·rw [if_neg c4] at H
  have c4b0 : decide (t318 < 0) = false := decide_eq_false c4
  clear c4
  replace H := Option.bind_eq_some_iff.mp H
  obtain ⟨⟨t319, t320, t321, t322⟩, A60, H⟩ := H
  replace H : ((laws_toPrefixS.f k l1).bind fun t323 => ((spec_Largest.f k t319 t320 t321 t322 t323).bind fun bt326 => ((laws_toPrefixS.f k l1).bind fun t332 => ((laws_toPrefix.f a0_0 a0_1 a0_2 a0_3).bind fun bt335 => ((impl_Largest.f k bt335.1 bt335.2.1 bt335.2.2.1 bt335.2.2.2 t332).bind fun bt339 => ((laws_eqPrefix.f bt339.1 bt339.2.1 bt339.2.2.1 bt339.2.2.2.1 bt326.1 bt326.2.1 bt326.2.2.1 bt326.2.2.2.1).bind fun t345 => (if t345 = true then (laws_FnExactLargest.j0 k l1 t332 (bt339.2.2.2.2 != bt326.2.2.2.2)) else (laws_FnExactLargest.j0 k l1 t332 true)))))))) = some r := H
  have A6 := Aside0.mk A60
  clear A60
  replace H := Option.bind_eq_some_iff.mp H
  obtain ⟨t323, A70, H⟩ := H
  replace H : ((spec_Largest.f k t319 t320 t321 t322 t323).bind fun bt326 => ((laws_toPrefixS.f k l1).bind fun t332 => ((laws_toPrefix.f a0_0 a0_1 a0_2 a0_3).bind fun bt335 => ((impl_Largest.f k bt335.1 bt335.2.1 bt335.2.2.1 bt335.2.2.2 t332).bind fun bt339 => ((laws_eqPrefix.f bt339.1 bt339.2.1 bt339.2.2.1 bt339.2.2.2.1 bt326.1 bt326.2.1 bt326.2.2.1 bt326.2.2.2.1).bind fun t345 => (if t345 = true then (laws_FnExactLargest.j0 k l1 t332 (bt339.2.2.2.2 != bt326.2.2.2.2)) else (laws_FnExactLargest.j0 k l1 t332 true))))))) = some r := H
  have A7 := Aside0.mk A70
  clear A70
  replace H := Option.bind_eq_some_iff.mp H
  obtain ⟨⟨t326, t327, t328, t329, t330⟩, A80, H⟩ := H
  replace H : ((laws_toPrefixS.f k l1).bind fun t332 => ((laws_toPrefix.f a0_0 a0_1 a0_2 a0_3).bind fun bt335 => ((impl_Largest.f k bt335.1 bt335.2.1 bt335.2.2.1 bt335.2.2.2 t332).bind fun bt339 => ((laws_eqPrefix.f bt339.1 bt339.2.1 bt339.2.2.1 bt339.2.2.2.1 t326 t327 t328 t329).bind fun t345 => (if t345 = true then (laws_FnExactLargest.j0 k l1 t332 (bt339.2.2.2.2 != t330)) else (laws_FnExactLargest.j0 k l1 t332 true)))))) = some r := H
  have A8 := Aside0.mk A80
  clear A80
  replace H := Option.bind_eq_some_iff.mp H
  obtain ⟨t332, A90, H⟩ := H
  replace H : ((laws_toPrefix.f a0_0 a0_1 a0_2 a0_3).bind fun bt335 => ((impl_Largest.f k bt335.1 bt335.2.1 bt335.2.2.1 bt335.2.2.2 t332).bind fun bt339 => ((laws_eqPrefix.f bt339.1 bt339.2.1 bt339.2.2.1 bt339.2.2.2.1 t326 t327 t328 t329).bind fun t345 => (if t345 = true then (laws_FnExactLargest.j0 k l1 t332 (bt339.2.2.2.2 != t330)) else (laws_FnExactLargest.j0 k l1 t332 true))))) = some r := H
  have A9 := Aside0.mk A90
  clear A90
  replace H := Option.bind_eq_some_iff.mp H
  obtain ⟨⟨t335, t336, t337, t338⟩, A100, H⟩ := H
  replace H : ((impl_Largest.f k t335 t336 t337 t338 t332).bind fun bt339 => ((laws_eqPrefix.f bt339.1 bt339.2.1 bt339.2.2.1 bt339.2.2.2.1 t326 t327 t328 t329).bind fun t345 => (if t345 = true then (laws_FnExactLargest.j0 k l1 t332 (bt339.2.2.2.2 != t330)) else (laws_FnExactLargest.j0 k l1 t332 true)))) = some r := H
  have A10 := Aside0.mk A100
  clear A100
  replace H := Option.bind_eq_some_iff.mp H
  obtain ⟨⟨t339, t340, t341, t342, t343⟩, A110, H⟩ := H
  replace H : ((laws_eqPrefix.f t339 t340 t341 t342 t326 t327 t328 t329).bind fun t345 => (if t345 = true then (laws_FnExactLargest.j0 k l1 t332 (t343 != t330)) else (laws_FnExactLargest.j0 k l1 t332 true))) = some r := H
  have A11 := Aside0.mk A110
  clear A110
  have HC12 := Aside0.mk H
  clear H
  go_enter Try.func14, Try.ntmps14
  go_upto_region 8 with (first | ((with_reducible refine gate_dst (N := 2) rfl ?_); refine box_event ?hg (N := 2) ?hd (cs := #[.bool a0_0, .int .i64 a0_1, .int .i64 a0_2, .int .i64 a0_3]) (t := 30) ?hr ?_; (case hd => rfl); (case hg => rfl); (case hr => first | (go_simp; done) | (go_simp; rfl)); intro gb317 hg w13 hbox hb; have n0_ := Aside0.mk (below_step (hb_ HB.out) hb); have n1_ := Aside0.mk (hbox); have n2_ := bg_ hg (below_size (hb_ HB.out)); have n3_ := bg_ hg (below_size (hb_ HB.out)); clear HB; have HB := n0_; have BK317 := n1_; have GW317 := n2_; have GE317 := n3_; clear n0_ n1_ n2_ n3_; clear hb hbox hg) | ((with_reducible refine gate_callee (f := 53) rfl ?_); refine goesL_ (some 13) rfl rfl Try.func53 (by kernel_rfl) rfl #[.slice A1 l1.length c1, .int .i64 1048576] rfl al_ ?_; (with_reducible refine (laws_szPrefixS.calls _ _ l1 1048576 t318 _ ?side1 ?side2 A3.out).mono ?_); (case side1 => repeat (first | exact (Kd.C_below HR1.out HB.out) | (with_reducible refine Kd.C_alloc ?_ _) | (with_reducible refine Kd.C_drewN ?_ _) | (with_reducible refine Kd.C_drew ?_))); (case side2 => exact HC1.out); rintro e w' ⟨rfl, ⟨nd, rfl⟩⟩; refine ⟨_, rfl, ?_⟩; (try (rw [drewN_self w13]; generalize hq_ : World.drewN w13 _ = w13; have n0_ : Aside0 (w13.heap[gb317]? = some (.cells #[.bool a0_0, .int .i64 a0_1, .int .i64 a0_2, .int .i64 a0_3] 30 (0, 0))) := ⟨by rw [← hq_]; exact (bk_ BK317.out)⟩; have n1_ : Aside0 (Below w.heap.size w w13) := ⟨by rw [← hq_]; exact (hc_ HB.out GE317.out)⟩; clear BK317 HB hq_; have BK317 := n0_; have HB := n1_; clear n0_ n1_)); obtain ⟨hcz14_0, hcz14_1, hcz14_2, hcz14_3, hfz14_0, hfz14_1, hfz14_2, hfz14_3⟩ := bc4_ BK317.out) | ((with_reducible refine gate_callee (f := 19) rfl ?_); refine goesL_ (some 18) rfl rfl Try.func19 (by kernel_rfl) rfl #[.agg #[.bool a0_0, .int .i64 a0_1, .int .i64 a0_2, .int .i64 a0_3]] rfl al_ ?_; (with_reducible refine (laws_toPrefix.calls a0_0 a0_1 a0_2 a0_3 t319 t320 t321 t322 _ A6.out).mono ?_); rintro e w15 ⟨rfl, hb⟩; refine ⟨_, rfl, ?_⟩; have n0_ := Aside0.mk (blk_below (bk_ BK317.out) hb); have n1_ := Aside0.mk (below_step (hc_ HB.out GE317.out) hb); clear BK317; clear HB; have BK317 := n0_; have HB := n1_; clear n0_ n1_; (try clear hb); (try clear hb2); (try clear hk); (try clear hi)) | ((with_reducible refine gate_callee (f := 55) rfl ?_); refine goesL_ (some 20) rfl rfl Try.func55 (by kernel_rfl) rfl #[.slice A1 l1.length c1] rfl al_ ?_; (with_reducible refine (laws_toPrefixS.calls k _ _ l1 t323 _ ?side1 ?side2 A7.out).mono ?_); (case side1 => repeat (first | exact (Kd.C_below HR1.out HB.out) | (with_reducible refine Kd.C_alloc ?_ _) | (with_reducible refine Kd.C_drewN ?_ _) | (with_reducible refine Kd.C_drew ?_))); (case side2 => exact HC1.out); rintro e w16 ⟨v324, rfl, ho0, hb⟩; refine ⟨_, rfl, ?_⟩; have n0_ := Aside0.mk (Kd.R_lower ho0 (below_size (hc_ HB.out GE317.out))); have n1_ := Aside0.mk (blk_below (bk_ BK317.out) hb); have n2_ := Aside0.mk (below_step (hc_ HB.out GE317.out) hb); clear BK317; clear HB; have HO325 := n0_; have BK317 := n1_; have HB := n2_; clear n0_ n1_ n2_; (try clear hb); (try clear hb2); (try clear hk); (try clear hi); (try clear ho0); obtain ⟨Ao17, co17, eo17⟩ := Kd.R_slice HO325.out; subst eo17) | ((with_reducible refine gate_callee (f := 58) rfl ?_); refine goesL_ (some 21) rfl rfl Try.func58 (by kernel_rfl) rfl #[.agg #[.bool t319, .int .i64 t320, .int .i64 t321, .int .i64 t322], .slice Ao17 t323.length co17] rfl al_ ?_; (with_reducible refine (spec_Largest.calls k t319 t320 t321 t322 _ _ t323 t326 t327 t328 t329 t330 _ ?side1 ?side2 A8.out).mono ?_); (case side1 => repeat (first | exact (Kd.R_reads' HO325.out).2.2 | (with_reducible refine Kd.C_alloc ?_ _) | (with_reducible refine Kd.C_drewN ?_ _) | (with_reducible refine Kd.C_drew ?_))); (case side2 => exact (Kd.R_reads' HO325.out).2.1); rintro e w18 ⟨rfl, hb⟩; refine ⟨_, rfl, ?_⟩; have n0_ := Aside0.mk (Kd.R_below (by (with_reducible repeat (first | apply Kd.R_alloc | apply Kd.R_drewN | apply Kd.R_drew)); exact HO325.out) hb); have n1_ := Aside0.mk (blk_below (bk_ BK317.out) hb); have n2_ := Aside0.mk (below_step (hc_ HB.out GE317.out) hb); clear HO325; clear BK317; clear HB; have HO325 := n0_; have BK317 := n1_; have HB := n2_; clear n0_ n1_ n2_; (try clear hb); (try clear hb2); (try clear hk); (try clear hi)) | ((with_reducible refine gate_dst (N := 6) rfl ?_); refine box_event ?hg (N := 6) ?hd (cs := #[.bool false, .int .i64 0, .int .i64 0, .int .i64 0]) (t := 32) ?hr ?_; (case hd => rfl); (case hg => rfl); (case hr => first | (go_simp; done) | (go_simp; rfl)); intro gb331 hg w19 hbox hb; have n0_ := Aside0.mk (Kd.R_below (Kd.R_elderB (by (with_reducible repeat (first | apply Kd.R_alloc | apply Kd.R_drewN | apply Kd.R_drew)); exact HO325.out) gb331 (Nat.le_of_eq hg.symm)) hb); have n1_ := Aside0.mk (blk_below (bk_ BK317.out) hb); have n2_ := Aside0.mk (below_step (hc_ HB.out GE317.out) hb); have n3_ := Aside0.mk (hbox); have n4_ := bg_ hg (below_size (hc_ HB.out GE317.out)); have n5_ := bg_ hg (below_size (hc_ HB.out GE317.out)); have n6_ := bn_ hg (blk_lt (bk_ BK317.out)); have n7_ := bm_ hg (blk_lt (bk_ BK317.out)); clear HO325; clear BK317; clear HB; have HO325 := n0_; have BK317 := n1_; have HB := n2_; have BK331 := n3_; have GW331 := n4_; have GE331 := n5_; have NB317_331 := n6_; have NB331_317 := n7_; clear n0_ n1_ n2_ n3_ n4_ n5_ n6_ n7_; clear hb hbox hg; have hnb20 := NB331_317.out; have hnc20 := NB317_331.out; obtain ⟨hcz21_0, hcz21_1, hcz21_2, hcz21_3, hfz21_0, hfz21_1, hfz21_2, hfz21_3⟩ := bc4_ BK331.out) | ((with_reducible refine gate_callee (f := 55) rfl ?_); refine goesL_ (some 25) rfl rfl Try.func55 (by kernel_rfl) rfl #[.slice A1 l1.length c1] rfl al_ ?_; (with_reducible refine (laws_toPrefixS.calls k _ _ l1 t332 _ ?side1 ?side2 A9.out).mono ?_); (case side1 => exact Kd.C_below HR1.out (hd_ HB.out GE317.out GE331.out)); (case side2 => exact HC1.out); rintro e w22 ⟨v333, rfl, ho0, hb⟩; refine ⟨_, rfl, ?_⟩; have n0_ := Aside0.mk (Kd.R_elder' (by (with_reducible repeat (first | apply Kd.R_alloc | apply Kd.R_drewN | apply Kd.R_drew)); exact (Kd.R_mono (Kd.R_far (p := ⟨gb331, 3, none⟩) (Kd.R_far (p := ⟨gb331, 2, none⟩) (Kd.R_far (p := ⟨gb331, 1, none⟩) (Kd.R_far (p := ⟨gb331, 0, none⟩) (Kd.R_mono HO325.out (fun k_ hk => (⟨hk, hk.2⟩ : _ ∧ k_ ≠ gb331))) (fun _ hk => hk.2) (.bool t326)) (fun _ hk => hk.2) (.int .i64 t327)) (fun _ hk => hk.2) (.int .i64 t328)) (fun _ hk => hk.2) (.int .i64 t329)) (fun _ h_ => h_.1))) (Kd.R_base ho0) hb); have n1_ := Aside0.mk (Kd.R_lower (Kd.R_newB (Kd.R_new' ho0 (Kd.R_lt (by (with_reducible repeat (first | apply Kd.R_alloc | apply Kd.R_drewN | apply Kd.R_drew)); exact (Kd.R_mono (Kd.R_far (p := ⟨gb331, 3, none⟩) (Kd.R_far (p := ⟨gb331, 2, none⟩) (Kd.R_far (p := ⟨gb331, 1, none⟩) (Kd.R_far (p := ⟨gb331, 0, none⟩) (Kd.R_mono HO325.out (fun k_ hk => (⟨hk, hk.2⟩ : _ ∧ k_ ≠ gb331))) (fun _ hk => hk.2) (.bool t326)) (fun _ hk => hk.2) (.int .i64 t327)) (fun _ hk => hk.2) (.int .i64 t328)) (fun _ hk => hk.2) (.int .i64 t329)) (fun _ h_ => h_.1))))) (g := gb331) (o := .cells #[.bool t326, .int .i64 t327, .int .i64 t328, .int .i64 t329] 32 (0, 0)) (by refine bk_ ?_; refine blk_put (cs := #[.bool t326, .int .i64 t327, .int .i64 t328, .int .i64 0]) ?_ 3 _ rfl; refine bk_ ?_; refine blk_put (cs := #[.bool t326, .int .i64 t327, .int .i64 0, .int .i64 0]) ?_ 2 _ rfl; refine bk_ ?_; refine blk_put (cs := #[.bool t326, .int .i64 0, .int .i64 0, .int .i64 0]) ?_ 1 _ rfl; refine bk_ ?_; refine blk_put (cs := #[.bool false, .int .i64 0, .int .i64 0, .int .i64 0]) ?_ 0 _ rfl; refine bk_ ?_; exact BK331.out)) (below_size (hd_ HB.out GE317.out GE331.out))); have n2_ := Aside0.mk (blk_below (g := gb317) (o := .cells #[.bool a0_0, .int .i64 a0_1, .int .i64 a0_2, .int .i64 a0_3] 30 (0, 0)) (by refine bk_ ?_; refine blk_far ?_ NB317_331.out _; refine bk_ ?_; refine blk_far ?_ NB317_331.out _; refine bk_ ?_; refine blk_far ?_ NB317_331.out _; refine bk_ ?_; refine blk_far ?_ NB317_331.out _; refine bk_ ?_; exact BK317.out) hb); have n3_ := Aside0.mk (blk_below (g := gb331) (o := .cells #[.bool t326, .int .i64 t327, .int .i64 t328, .int .i64 t329] 32 (0, 0)) (by refine bk_ ?_; refine blk_put (cs := #[.bool t326, .int .i64 t327, .int .i64 t328, .int .i64 0]) ?_ 3 _ rfl; refine bk_ ?_; refine blk_put (cs := #[.bool t326, .int .i64 t327, .int .i64 0, .int .i64 0]) ?_ 2 _ rfl; refine bk_ ?_; refine blk_put (cs := #[.bool t326, .int .i64 0, .int .i64 0, .int .i64 0]) ?_ 1 _ rfl; refine bk_ ?_; refine blk_put (cs := #[.bool false, .int .i64 0, .int .i64 0, .int .i64 0]) ?_ 0 _ rfl; refine bk_ ?_; exact BK331.out) hb); have n4_ := Aside0.mk (below_step (hd_ HB.out GE317.out GE331.out) hb); clear HO325; clear BK317; clear BK331; clear HB; have HO325 := n0_; have HO334 := n1_; have BK317 := n2_; have BK331 := n3_; have HB := n4_; clear n0_ n1_ n2_ n3_ n4_; (try clear hb); (try clear hb2); (try clear hk); (try clear hi); (try clear ho0); obtain ⟨hcz23_0, hcz23_1, hcz23_2, hcz23_3, hfz23_0, hfz23_1, hfz23_2, hfz23_3⟩ := bc4_ BK317.out) | ((with_reducible refine gate_callee (f := 19) rfl ?_); refine goesL_ (some 28) rfl rfl Try.func19 (by kernel_rfl) rfl #[.agg #[.bool a0_0, .int .i64 a0_1, .int .i64 a0_2, .int .i64 a0_3]] rfl al_ ?_; (with_reducible refine (laws_toPrefix.calls a0_0 a0_1 a0_2 a0_3 t335 t336 t337 t338 _ A10.out).mono ?_); rintro e w24 ⟨rfl, hb⟩; refine ⟨_, rfl, ?_⟩; have n0_ := Aside0.mk (Kd.R_below (by (with_reducible repeat (first | apply Kd.R_alloc | apply Kd.R_drewN | apply Kd.R_drew)); exact HO325.out) hb); have n1_ := Aside0.mk (Kd.R_below (by (with_reducible repeat (first | apply Kd.R_alloc | apply Kd.R_drewN | apply Kd.R_drew)); exact HO334.out) hb); have n2_ := Aside0.mk (blk_below (bk_ BK317.out) hb); have n3_ := Aside0.mk (blk_below (bk_ BK331.out) hb); have n4_ := Aside0.mk (below_step (hd_ HB.out GE317.out GE331.out) hb); clear HO325; clear HO334; clear BK317; clear BK331; clear HB; have HO325 := n0_; have HO334 := n1_; have BK317 := n2_; have BK331 := n3_; have HB := n4_; clear n0_ n1_ n2_ n3_ n4_; (try clear hb); (try clear hb2); (try clear hk); (try clear hi); obtain ⟨Ao25, co25, eo25⟩ := Kd.R_slice HO334.out; subst eo25) | ((with_reducible refine gate_callee (f := 59) rfl ?_); refine goesL_ (some 30) rfl rfl Try.func59 (by kernel_rfl) rfl #[.agg #[.bool t335, .int .i64 t336, .int .i64 t337, .int .i64 t338], .slice Ao25 t332.length co25] rfl al_ ?_; (with_reducible refine (impl_Largest.calls k t335 t336 t337 t338 _ _ t332 t339 t340 t341 t342 t343 _ ?side1 ?side2 A11.out).mono ?_); (case side1 => repeat (first | exact (Kd.R_reads' HO334.out).2.2 | (with_reducible refine Kd.C_alloc ?_ _) | (with_reducible refine Kd.C_drewN ?_ _) | (with_reducible refine Kd.C_drew ?_))); (case side2 => exact (Kd.R_reads' HO334.out).2.1); rintro e w26 ⟨rfl, hb⟩; refine ⟨_, rfl, ?_⟩; have n0_ := Aside0.mk (Kd.R_below (by (with_reducible repeat (first | apply Kd.R_alloc | apply Kd.R_drewN | apply Kd.R_drew)); exact HO325.out) hb); have n1_ := Aside0.mk (Kd.R_below (by (with_reducible repeat (first | apply Kd.R_alloc | apply Kd.R_drewN | apply Kd.R_drew)); exact HO334.out) hb); have n2_ := Aside0.mk (blk_below (bk_ BK317.out) hb); have n3_ := Aside0.mk (blk_below (bk_ BK331.out) hb); have n4_ := Aside0.mk (below_step (hd_ HB.out GE317.out GE331.out) hb); clear HO325; clear HO334; clear BK317; clear BK331; clear HB; have HO325 := n0_; have HO334 := n1_; have BK317 := n2_; have BK331 := n3_; have HB := n4_; clear n0_ n1_ n2_ n3_ n4_; (try clear hb); (try clear hb2); (try clear hk); (try clear hi)) | ((with_reducible refine gate_dst (N := 9) rfl ?_); refine box_event ?hg (N := 9) ?hd (cs := #[.bool false, .int .i64 0, .int .i64 0, .int .i64 0]) (t := 32) ?hr ?_; (case hd => rfl); (case hg => rfl); (case hr => first | (go_simp; done) | (go_simp; rfl)); intro gb344 hg w27 hbox hb; have n0_ := Aside0.mk (Kd.R_below (Kd.R_elderB (by (with_reducible repeat (first | apply Kd.R_alloc | apply Kd.R_drewN | apply Kd.R_drew)); exact HO325.out) gb344 (Nat.le_of_eq hg.symm)) hb); have n1_ := Aside0.mk (Kd.R_below (Kd.R_elderB (by (with_reducible repeat (first | apply Kd.R_alloc | apply Kd.R_drewN | apply Kd.R_drew)); exact HO334.out) gb344 (Nat.le_of_eq hg.symm)) hb); have n2_ := Aside0.mk (blk_below (bk_ BK317.out) hb); have n3_ := Aside0.mk (blk_below (bk_ BK331.out) hb); have n4_ := Aside0.mk (below_step (hd_ HB.out GE317.out GE331.out) hb); have n5_ := Aside0.mk (hbox); have n6_ := bg_ hg (below_size (hd_ HB.out GE317.out GE331.out)); have n7_ := bg_ hg (below_size (hd_ HB.out GE317.out GE331.out)); have n8_ := bn_ hg (blk_lt (bk_ BK317.out)); have n9_ := bm_ hg (blk_lt (bk_ BK317.out)); have n10_ := bn_ hg (blk_lt (bk_ BK331.out)); have n11_ := bm_ hg (blk_lt (bk_ BK331.out)); clear HO325; clear HO334; clear BK317; clear BK331; clear HB; have HO325 := n0_; have HO334 := n1_; have BK317 := n2_; have BK331 := n3_; have HB := n4_; have BK344 := n5_; have GW344 := n6_; have GE344 := n7_; have NB317_344 := n8_; have NB344_317 := n9_; have NB331_344 := n10_; have NB344_331 := n11_; clear n0_ n1_ n2_ n3_ n4_ n5_ n6_ n7_ n8_ n9_ n10_ n11_; clear hb hbox hg; have hnb28 := NB344_317.out; have hnc28 := NB317_344.out; have hnb29 := NB344_331.out; have hnc29 := NB331_344.out; obtain ⟨hcz30_0, hcz30_1, hcz30_2, hcz30_3, hfz30_0, hfz30_1, hfz30_2, hfz30_3⟩ := bc4_ BK344.out))
  (try simp only [Act.put, List.setIfInBounds_toArray, List.set_cons_zero, List.set_cons_succ])
  go_cut [41] (fun v41 wc => ∃ (kq : Nat) (x41_11 : Bool), v41 = .bool x41_11 ∧ Aside0 (laws_FnExactLargest.j0 kq l1 t332 x41_11 = some r) ∧ Aside0 (kq ≤ k) ∧ Aside0 (Kd.R k32 32 wc w.heap.size (fun k_ => k_ ≠ gb331 ∧ k_ ≠ gb344) (.slice Ao25 t332.length co25) t332) ∧ Aside0 (wc.heap[gb317]? = some (.cells #[.bool a0_0, .int .i64 a0_1, .int .i64 a0_2, .int .i64 a0_3] 30 (0, 0))) ∧ Aside0 (wc.heap[gb331]? = some (.cells #[.bool t326, .int .i64 t327, .int .i64 t328, .int .i64 t329] 32 (0, 0))) ∧ Aside0 (wc.heap[gb344]? = some (.cells #[.bool t339, .int .i64 t340, .int .i64 t341, .int .i64 t342] 32 (0, 0))) ∧ Aside0 (Below w.heap.size w wc))
  case first =>
   have H := HC12.out
   clear HC12
   replace H := Option.bind_eq_some_iff.mp H
   obtain ⟨t345, A310, H⟩ := H
   replace H : (if t345 = true then (laws_FnExactLargest.j0 k l1 t332 (t343 != t330)) else (laws_FnExactLargest.j0 k l1 t332 true)) = some r := H
   have A31 := Aside0.mk A310
   clear A310
   by_cases c32 : t345 = true
   ·subst c32
    have H1 : (laws_FnExactLargest.j0 k l1 t332 (t343 != t330)) = some r := by rw [if_pos rfl] at H; exact H
    clear H
    have H := H1
    clear H1
    have H' := Aside0.mk H
    clear H
    have hnb33 := NB344_317.out
    have hnc33 := NB317_344.out
    have hnb34 := NB344_331.out
    have hnc34 := NB331_344.out
    obtain ⟨hcz35_0, hcz35_1, hcz35_2, hcz35_3, hfz35_0, hfz35_1, hfz35_2, hfz35_3⟩ := bc4_ BK344.out
    have hnb36 := NB331_317.out
    have hnc36 := NB317_331.out
    obtain ⟨hcz37_0, hcz37_1, hcz37_2, hcz37_3, hfz37_0, hfz37_1, hfz37_2, hfz37_3⟩ := bc4_ BK331.out
    go_wp2_with (first | ((with_reducible refine gate_callee (f := 21) rfl ?_); refine goesL_ (some 35) rfl rfl Try.func21 (by kernel_rfl) rfl #[.agg #[.bool t339, .int .i64 t340, .int .i64 t341, .int .i64 t342], .agg #[.bool t326, .int .i64 t327, .int .i64 t328, .int .i64 t329]] rfl al_ ?_; (with_reducible refine (laws_eqPrefix.calls t339 t340 t341 t342 t326 t327 t328 t329 true _ A31.out).mono ?_); rintro e w38 ⟨rfl, hb⟩; refine ⟨_, rfl, ?_⟩; have n0_ := Aside0.mk (Kd.R_below (by (with_reducible repeat (first | apply Kd.R_alloc | apply Kd.R_drewN | apply Kd.R_drew)); exact (Kd.R_mono (Kd.R_far (p := ⟨gb344, 3, none⟩) (Kd.R_far (p := ⟨gb344, 2, none⟩) (Kd.R_far (p := ⟨gb344, 1, none⟩) (Kd.R_far (p := ⟨gb344, 0, none⟩) (Kd.R_mono HO325.out (fun k_ hk => (⟨hk, hk.2⟩ : _ ∧ k_ ≠ gb344))) (fun _ hk => hk.2) (.bool t339)) (fun _ hk => hk.2) (.int .i64 t340)) (fun _ hk => hk.2) (.int .i64 t341)) (fun _ hk => hk.2) (.int .i64 t342)) (fun _ h_ => h_.1))) hb); have n1_ := Aside0.mk (Kd.R_below (by (with_reducible repeat (first | apply Kd.R_alloc | apply Kd.R_drewN | apply Kd.R_drew)); exact (Kd.R_mono (Kd.R_far (p := ⟨gb344, 3, none⟩) (Kd.R_far (p := ⟨gb344, 2, none⟩) (Kd.R_far (p := ⟨gb344, 1, none⟩) (Kd.R_far (p := ⟨gb344, 0, none⟩) (Kd.R_mono HO334.out (fun k_ hk => (⟨hk, hk.2⟩ : _ ∧ k_ ≠ gb344))) (fun _ hk => hk.2) (.bool t339)) (fun _ hk => hk.2) (.int .i64 t340)) (fun _ hk => hk.2) (.int .i64 t341)) (fun _ hk => hk.2) (.int .i64 t342)) (fun _ h_ => h_.1))) hb); have n2_ := Aside0.mk (blk_below (g := gb317) (o := .cells #[.bool a0_0, .int .i64 a0_1, .int .i64 a0_2, .int .i64 a0_3] 30 (0, 0)) (by refine bk_ ?_; refine blk_far ?_ NB317_344.out _; refine bk_ ?_; refine blk_far ?_ NB317_344.out _; refine bk_ ?_; refine blk_far ?_ NB317_344.out _; refine bk_ ?_; refine blk_far ?_ NB317_344.out _; refine bk_ ?_; exact BK317.out) hb); have n3_ := Aside0.mk (blk_below (g := gb331) (o := .cells #[.bool t326, .int .i64 t327, .int .i64 t328, .int .i64 t329] 32 (0, 0)) (by refine bk_ ?_; refine blk_far ?_ NB331_344.out _; refine bk_ ?_; refine blk_far ?_ NB331_344.out _; refine bk_ ?_; refine blk_far ?_ NB331_344.out _; refine bk_ ?_; refine blk_far ?_ NB331_344.out _; refine bk_ ?_; exact BK331.out) hb); have n4_ := Aside0.mk (blk_below (g := gb344) (o := .cells #[.bool t339, .int .i64 t340, .int .i64 t341, .int .i64 t342] 32 (0, 0)) (by refine bk_ ?_; refine blk_put (cs := #[.bool t339, .int .i64 t340, .int .i64 t341, .int .i64 0]) ?_ 3 _ rfl; refine bk_ ?_; refine blk_put (cs := #[.bool t339, .int .i64 t340, .int .i64 0, .int .i64 0]) ?_ 2 _ rfl; refine bk_ ?_; refine blk_put (cs := #[.bool t339, .int .i64 0, .int .i64 0, .int .i64 0]) ?_ 1 _ rfl; refine bk_ ?_; refine blk_put (cs := #[.bool false, .int .i64 0, .int .i64 0, .int .i64 0]) ?_ 0 _ rfl; refine bk_ ?_; exact BK344.out) hb); have n5_ := Aside0.mk (below_step (by repeat (first | (with_reducible first | exact HB.out | apply below_alloc | apply pw_below_drewN | apply below_drew1 | refine below_set ?_ GE317.out | refine below_set ?_ GE331.out | refine below_set ?_ GE344.out) | exact HB.out)) hb); clear HO325; clear HO334; clear BK317; clear BK331; clear BK344; clear HB; have HO325 := n0_; have HO334 := n1_; have BK317 := n2_; have BK331 := n3_; have BK344 := n4_; have HB := n5_; clear n0_ n1_ n2_ n3_ n4_ n5_; (try clear hb); (try clear hb2); (try clear hk); (try clear hi)))
    go_meet
    case rel => exact ⟨_, ((t343 != t330)), (by first | rfl | (simp; done) | (simp [*]; done)), H', ⟨by first | omega | exact Nat.le_refl _⟩, ⟨by (with_reducible repeat (first | apply Kd.R_alloc | apply Kd.R_drewN | apply Kd.R_drew)); exact Kd.R_mono HO334.out (fun _ hk => ⟨hk.1.2, hk.2⟩)⟩, ⟨by refine bk_ ?_; exact BK317.out⟩, ⟨by refine bk_ ?_; exact BK331.out⟩, ⟨by refine bk_ ?_; exact BK344.out⟩, ⟨by repeat (first | (with_reducible first | exact HB.out | apply below_alloc | apply pw_below_drewN | apply below_drew1 | refine below_set ?_ GE317.out | refine below_set ?_ GE331.out | refine below_set ?_ GE344.out) | exact HB.out)⟩⟩
   ·replace c32 := Bool.eq_false_iff.mpr c32
    subst c32
    have H1 : (laws_FnExactLargest.j0 k l1 t332 true) = some r := by rw [if_neg (show ¬ (false = true) by decide)] at H; exact H
    clear H
    have H := H1
    clear H1
    have H' := Aside0.mk H
    clear H
    have hnb39 := NB344_317.out
    have hnc39 := NB317_344.out
    have hnb40 := NB344_331.out
    have hnc40 := NB331_344.out
    obtain ⟨hcz41_0, hcz41_1, hcz41_2, hcz41_3, hfz41_0, hfz41_1, hfz41_2, hfz41_3⟩ := bc4_ BK344.out
    have hnb42 := NB331_317.out
    have hnc42 := NB317_331.out
    obtain ⟨hcz43_0, hcz43_1, hcz43_2, hcz43_3, hfz43_0, hfz43_1, hfz43_2, hfz43_3⟩ := bc4_ BK331.out
    go_wp2_with (first | ((with_reducible refine gate_callee (f := 21) rfl ?_); refine goesL_ (some 35) rfl rfl Try.func21 (by kernel_rfl) rfl #[.agg #[.bool t339, .int .i64 t340, .int .i64 t341, .int .i64 t342], .agg #[.bool t326, .int .i64 t327, .int .i64 t328, .int .i64 t329]] rfl al_ ?_; (with_reducible refine (laws_eqPrefix.calls t339 t340 t341 t342 t326 t327 t328 t329 false _ A31.out).mono ?_); rintro e w44 ⟨rfl, hb⟩; refine ⟨_, rfl, ?_⟩; have n0_ := Aside0.mk (Kd.R_below (by (with_reducible repeat (first | apply Kd.R_alloc | apply Kd.R_drewN | apply Kd.R_drew)); exact (Kd.R_mono (Kd.R_far (p := ⟨gb344, 3, none⟩) (Kd.R_far (p := ⟨gb344, 2, none⟩) (Kd.R_far (p := ⟨gb344, 1, none⟩) (Kd.R_far (p := ⟨gb344, 0, none⟩) (Kd.R_mono HO325.out (fun k_ hk => (⟨hk, hk.2⟩ : _ ∧ k_ ≠ gb344))) (fun _ hk => hk.2) (.bool t339)) (fun _ hk => hk.2) (.int .i64 t340)) (fun _ hk => hk.2) (.int .i64 t341)) (fun _ hk => hk.2) (.int .i64 t342)) (fun _ h_ => h_.1))) hb); have n1_ := Aside0.mk (Kd.R_below (by (with_reducible repeat (first | apply Kd.R_alloc | apply Kd.R_drewN | apply Kd.R_drew)); exact (Kd.R_mono (Kd.R_far (p := ⟨gb344, 3, none⟩) (Kd.R_far (p := ⟨gb344, 2, none⟩) (Kd.R_far (p := ⟨gb344, 1, none⟩) (Kd.R_far (p := ⟨gb344, 0, none⟩) (Kd.R_mono HO334.out (fun k_ hk => (⟨hk, hk.2⟩ : _ ∧ k_ ≠ gb344))) (fun _ hk => hk.2) (.bool t339)) (fun _ hk => hk.2) (.int .i64 t340)) (fun _ hk => hk.2) (.int .i64 t341)) (fun _ hk => hk.2) (.int .i64 t342)) (fun _ h_ => h_.1))) hb); have n2_ := Aside0.mk (blk_below (g := gb317) (o := .cells #[.bool a0_0, .int .i64 a0_1, .int .i64 a0_2, .int .i64 a0_3] 30 (0, 0)) (by refine bk_ ?_; refine blk_far ?_ NB317_344.out _; refine bk_ ?_; refine blk_far ?_ NB317_344.out _; refine bk_ ?_; refine blk_far ?_ NB317_344.out _; refine bk_ ?_; refine blk_far ?_ NB317_344.out _; refine bk_ ?_; exact BK317.out) hb); have n3_ := Aside0.mk (blk_below (g := gb331) (o := .cells #[.bool t326, .int .i64 t327, .int .i64 t328, .int .i64 t329] 32 (0, 0)) (by refine bk_ ?_; refine blk_far ?_ NB331_344.out _; refine bk_ ?_; refine blk_far ?_ NB331_344.out _; refine bk_ ?_; refine blk_far ?_ NB331_344.out _; refine bk_ ?_; refine blk_far ?_ NB331_344.out _; refine bk_ ?_; exact BK331.out) hb); have n4_ := Aside0.mk (blk_below (g := gb344) (o := .cells #[.bool t339, .int .i64 t340, .int .i64 t341, .int .i64 t342] 32 (0, 0)) (by refine bk_ ?_; refine blk_put (cs := #[.bool t339, .int .i64 t340, .int .i64 t341, .int .i64 0]) ?_ 3 _ rfl; refine bk_ ?_; refine blk_put (cs := #[.bool t339, .int .i64 t340, .int .i64 0, .int .i64 0]) ?_ 2 _ rfl; refine bk_ ?_; refine blk_put (cs := #[.bool t339, .int .i64 0, .int .i64 0, .int .i64 0]) ?_ 1 _ rfl; refine bk_ ?_; refine blk_put (cs := #[.bool false, .int .i64 0, .int .i64 0, .int .i64 0]) ?_ 0 _ rfl; refine bk_ ?_; exact BK344.out) hb); have n5_ := Aside0.mk (below_step (by repeat (first | (with_reducible first | exact HB.out | apply below_alloc | apply pw_below_drewN | apply below_drew1 | refine below_set ?_ GE317.out | refine below_set ?_ GE331.out | refine below_set ?_ GE344.out) | exact HB.out)) hb); clear HO325; clear HO334; clear BK317; clear BK331; clear BK344; clear HB; have HO325 := n0_; have HO334 := n1_; have BK317 := n2_; have BK331 := n3_; have BK344 := n4_; have HB := n5_; clear n0_ n1_ n2_ n3_ n4_ n5_; (try clear hb); (try clear hb2); (try clear hk); (try clear hi)))
    go_meet
    case rel => exact ⟨_, (true), (by first | rfl | (simp; done) | (simp [*]; done)), H', ⟨by first | omega | exact Nat.le_refl _⟩, ⟨by (with_reducible repeat (first | apply Kd.R_alloc | apply Kd.R_drewN | apply Kd.R_drew)); exact Kd.R_mono HO334.out (fun _ hk => ⟨hk.1.2, hk.2⟩)⟩, ⟨by refine bk_ ?_; exact BK317.out⟩, ⟨by refine bk_ ?_; exact BK331.out⟩, ⟨by refine bk_ ?_; exact BK344.out⟩, ⟨by repeat (first | (with_reducible first | exact HB.out | apply below_alloc | apply pw_below_drewN | apply below_drew1 | refine below_set ?_ GE317.out | refine below_set ?_ GE331.out | refine below_set ?_ GE344.out) | exact HB.out)⟩⟩
  case rest =>
   clear HC12
   try clear c1
   try clear c2
   try clear p2
   try clear c3
   try clear c4
   try clear c4b0
   try clear c5
   try clear c14
   try clear c19
   try clear c20
   try clear c21
   try clear c28
   try clear c29
   try clear c32
   try clear c33
   try clear c34
   try clear c36
   try clear c39
   try clear c40
   try clear c42
   try clear hcz14_0
   try clear hcz14_1
   try clear hcz14_2
   try clear hcz14_3
   try clear hcz21_0
   try clear hcz21_1
   try clear hcz21_2
   try clear hcz21_3
   try clear hcz23_0
   try clear hcz23_1
   try clear hcz23_2
   try clear hcz23_3
   try clear hcz30_0
   try clear hcz30_1
   try clear hcz30_2
   try clear hcz30_3
   try clear hcz35_0
   try clear hcz35_1
   try clear hcz35_2
   try clear hcz35_3
   try clear hcz37_0
   try clear hcz37_1
   try clear hcz37_2
   try clear hcz37_3
   try clear hcz41_0
   try clear hcz41_1
   try clear hcz41_2
   try clear hcz41_3
   try clear hcz43_0
   try clear hcz43_1
   try clear hcz43_2
   try clear hcz43_3
   try clear hfz14_0
   try clear hfz14_1
   try clear hfz14_2
   try clear hfz14_3
   try clear hfz21_0
   try clear hfz21_1
   try clear hfz21_2
   try clear hfz21_3
   try clear hfz23_0
   try clear hfz23_1
   try clear hfz23_2
   try clear hfz23_3
   try clear hfz30_0
   try clear hfz30_1
   try clear hfz30_2
   try clear hfz30_3
   try clear hfz35_0
   try clear hfz35_1
   try clear hfz35_2
   try clear hfz35_3
   try clear hfz37_0
   try clear hfz37_1
   try clear hfz37_2
   try clear hfz37_3
   try clear hfz41_0
   try clear hfz41_1
   try clear hfz41_2
   try clear hfz41_3
   try clear hfz43_0
   try clear hfz43_1
   try clear hfz43_2
   try clear hfz43_3
   obtain ⟨kq, x41_11, rfl, HA, HJ11, HO_8, BK317, BK331, BK344, HB⟩ := hcut
   cases kq with
   | zero => exact absurd HA.out (by simp [laws_FnExactLargest.j0])
   | succ kj11 =>
    have H := HA.out
    clear HA
    simp only [laws_FnExactLargest.j0] at H
    by_cases c45 : x41_11 = true
    ·subst c45
     have H1 : (some false) = some r := by rw [if_pos rfl] at H; exact H
     clear H
     have H := H1
     clear H1
     exact absurd ((Option.some.inj H).trans HLAW.out) (by decide)
    ·replace c45 := Bool.eq_false_iff.mpr c45
     subst c45
     have H1 : ((laws_toPrefixS.f kj11 l1).bind fun t346 => ((laws_eqPrefixS.f kj11 t332 t346).bind fun t349 => (if t349 = true then (some true) else (some false)))) = some r := by rw [if_neg (show ¬ (false = true) by decide)] at H; exact H
     clear H
     have H := H1
     clear H1
     replace H := Option.bind_eq_some_iff.mp H
     obtain ⟨t346, A460, H⟩ := H
     replace H : ((laws_eqPrefixS.f kj11 t332 t346).bind fun t349 => (if t349 = true then (some true) else (some false))) = some r := H
     have A46 := Aside0.mk A460
     clear A460
     replace H := Option.bind_eq_some_iff.mp H
     obtain ⟨t349, A470, H⟩ := H
     replace H : (if t349 = true then (some true) else (some false)) = some r := H
     have A47 := Aside0.mk A470
     clear A470
     by_cases c48 : t349 = true
     ·subst c48
      have H1 : (some true) = some r := by rw [if_pos rfl] at H; exact H
      clear H
      have H := H1
      clear H1
      obtain rfl := Option.some.inj H
      go_wp2_with (first | ((with_reducible refine gate_callee (f := 55) rfl ?_); refine goesL_ (some 44) rfl rfl Try.func55 (by kernel_rfl) rfl #[.slice A1 l1.length c1] rfl al_ ?_; (with_reducible refine (laws_toPrefixS.calls kj11 _ _ l1 t346 _ ?side1 ?side2 A46.out).mono ?_); (case side1 => repeat (first | exact (Kd.C_below HR1.out HB.out) | (with_reducible refine Kd.C_alloc ?_ _) | (with_reducible refine Kd.C_drewN ?_ _) | (with_reducible refine Kd.C_drew ?_))); (case side2 => exact HC1.out); rintro e w49 ⟨v347, rfl, ho0, hb⟩; refine ⟨_, rfl, ?_⟩; have n0_ := Aside0.mk (Kd.R_elder' (by (with_reducible repeat (first | apply Kd.R_alloc | apply Kd.R_drewN | apply Kd.R_drew)); exact HO_8.out) (Kd.R_base ho0) hb); have n1_ := Aside0.mk (Kd.R_lower (Kd.R_newB (Kd.R_newB (Kd.R_new' ho0 (Kd.R_lt (by (with_reducible repeat (first | apply Kd.R_alloc | apply Kd.R_drewN | apply Kd.R_drew)); exact HO_8.out))) (g := gb331) (o := .cells #[.bool t326, .int .i64 t327, .int .i64 t328, .int .i64 t329] 32 (0, 0)) (bk_ BK331.out)) (g := gb344) (o := .cells #[.bool t339, .int .i64 t340, .int .i64 t341, .int .i64 t342] 32 (0, 0)) (bk_ BK344.out)) (below_size (by repeat (first | (with_reducible first | exact HB.out | apply below_alloc | apply pw_below_drewN | apply below_drew1 | refine below_set ?_ GE317.out | refine below_set ?_ GE331.out | refine below_set ?_ GE344.out) | exact HB.out)))); have n2_ := Aside0.mk (blk_below (bk_ BK317.out) hb); have n3_ := Aside0.mk (blk_below (bk_ BK331.out) hb); have n4_ := Aside0.mk (blk_below (bk_ BK344.out) hb); have n5_ := Aside0.mk (below_step (by repeat (first | (with_reducible first | exact HB.out | apply below_alloc | apply pw_below_drewN | apply below_drew1 | refine below_set ?_ GE317.out | refine below_set ?_ GE331.out | refine below_set ?_ GE344.out) | exact HB.out)) hb); clear HO_8; clear BK317; clear BK331; clear BK344; clear HB; have HO_8 := n0_; have HO348 := n1_; have BK317 := n2_; have BK331 := n3_; have BK344 := n4_; have HB := n5_; clear n0_ n1_ n2_ n3_ n4_ n5_; (try clear hb); (try clear hb2); (try clear hk); (try clear hi); (try clear ho0); obtain ⟨Ao50, co50, eo50⟩ := Kd.R_slice HO348.out; subst eo50) | ((with_reducible refine gate_callee (f := 57) rfl ?_); refine goesL_ (some 45) rfl rfl Try.func57 (by kernel_rfl) rfl #[.slice Ao25 t332.length co25, .slice Ao50 t346.length co50] rfl al_ ?_; (with_reducible refine (laws_eqPrefixS.calls kj11 _ _ t332 _ _ t346 true _ ?side1 ?side2 ?side3 ?side4 A47.out).mono ?_); (case side1 => repeat (first | exact (Kd.R_reads' HO_8.out).2.2 | (with_reducible refine Kd.C_alloc ?_ _) | (with_reducible refine Kd.C_drewN ?_ _) | (with_reducible refine Kd.C_drew ?_))); (case side2 => exact (Kd.R_reads' HO_8.out).2.1); (case side3 => repeat (first | exact (Kd.R_reads' HO348.out).2.2 | (with_reducible refine Kd.C_alloc ?_ _) | (with_reducible refine Kd.C_drewN ?_ _) | (with_reducible refine Kd.C_drew ?_))); (case side4 => exact (Kd.R_reads' HO348.out).2.1); rintro e w51 ⟨rfl, hb⟩; refine ⟨_, rfl, ?_⟩; have n0_ := Aside0.mk (Kd.R_below (by (with_reducible repeat (first | apply Kd.R_alloc | apply Kd.R_drewN | apply Kd.R_drew)); exact HO_8.out) hb); have n1_ := Aside0.mk (Kd.R_below (by (with_reducible repeat (first | apply Kd.R_alloc | apply Kd.R_drewN | apply Kd.R_drew)); exact HO348.out) hb); have n2_ := Aside0.mk (blk_below (bk_ BK317.out) hb); have n3_ := Aside0.mk (blk_below (bk_ BK331.out) hb); have n4_ := Aside0.mk (blk_below (bk_ BK344.out) hb); have n5_ := Aside0.mk (below_step (by repeat (first | (with_reducible first | exact HB.out | apply below_alloc | apply pw_below_drewN | apply below_drew1 | refine below_set ?_ GE317.out | refine below_set ?_ GE331.out | refine below_set ?_ GE344.out) | exact HB.out)) hb); clear HO_8; clear HO348; clear BK317; clear BK331; clear BK344; clear HB; have HO_8 := n0_; have HO348 := n1_; have BK317 := n2_; have BK331 := n3_; have BK344 := n4_; have HB := n5_; clear n0_ n1_ n2_ n3_ n4_ n5_; (try clear hb); (try clear hb2); (try clear hk); (try clear hi)))
      go_ret
      exact ⟨pe_, by repeat (first | (with_reducible first | exact HB.out | apply below_alloc | apply pw_below_drewN | apply below_drew1 | refine below_set ?_ GE317.out | refine below_set ?_ GE331.out | refine below_set ?_ GE344.out) | exact HB.out)⟩
     ·replace c48 := Bool.eq_false_iff.mpr c48
      subst c48
      have H1 : (some false) = some r := by rw [if_neg (show ¬ (false = true) by decide)] at H; exact H
      clear H
      have H := H1
      clear H1
      exact absurd ((Option.some.inj H).trans HLAW.out) (by decide)

end Go.Proofs.Ytigmadccchofiaa.QFnExactLargest
