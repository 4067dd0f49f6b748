-- Written by a program of this session (wip/myprint.py); Lean checks it.
import Derived.Test.YtigmadccchofiaaQFnExactGapTox0
import Derived.Test.YtigmadccchofiaaQFnExactGapTox1
import Derived.Test.YtigmadccchofiaaQFnExactGapTox2
namespace Go.Proofs.Ytigmadccchofiaa.QFnExactGapTo
open Go.RowKit Go.Proofs.YtigmadccchofiaaW.PrintWords Go.Proofs.YtigmadccchofiaaW.PrintLast Go.Proofs.YtigmadccchofiaaW.PrintMore
attribute [local go_sem] max2_int min2_int max_two min_two max_three min_three max_four min_four   -- for this text's walks alone
set_option linter.unusedVariables false
set_option linter.unusedSimpArgs false

attribute [local go_sem] isSome_setCell
/-! ### impl_GapTo: function 17 -/
def impl_GapTo.j0 : Nat → Bool → Bool → Int → Int → Bool → Int → Int → Option (Int × Bool)
  | 0, _, _, _, _, _, _, _ => none
  | k + 1, x24, x151000, x151001, x151002, x152000, x152001, x152002 => if x24 = true then (some (0, false)) else (if (sub64s (IntKind.u64.wrap (x152001)) (IntKind.u64.wrap (x151001)) (sub64c (IntKind.u64.wrap (x152002)) (IntKind.u64.wrap (x151002)) 0)) = 0 then (if (wrap64 (sub64s (IntKind.u64.wrap (x152002)) (IntKind.u64.wrap (x151002)) 0)) < 0 then (some (0, false)) else (some (wrap64 (sub64s (IntKind.u64.wrap (x152002)) (IntKind.u64.wrap (x151002)) 0), true))) else (some (0, false)))
def impl_GapTo.f (k : Nat) (a0_0 : Bool) (a0_1 : Int) (a0_2 : Int) (a1_0 : Bool) (a1_1 : Int) (a1_2 : Int) : Option (Int × Bool) := (impl_right.f a0_0 a0_1 a0_2).bind fun bt152 => ((impl_right.f a1_0 a1_1 a1_2).bind fun bt155 => (if (bt152.1 != bt155.1) = true then (impl_GapTo.j0 k true bt152.1 bt152.2.1 bt152.2.2 bt155.1 bt155.2.1 bt155.2.2) else ((impl_CmpAddr.f k bt155.1 bt155.2.1 bt155.2.2 bt152.1 bt152.2.1 bt152.2.2).bind fun t158 => (impl_GapTo.j0 k (decide (t158 < 0)) bt152.1 bt152.2.1 bt152.2.2 bt155.1 bt155.2.1 bt155.2.2))))
theorem impl_GapTo.mono_l : ∀ k, (∀ y0 y1 y2 y3 y4 y5 y6, LeO (impl_GapTo.j0 k y0 y1 y2 y3 y4 y5 y6) (impl_GapTo.j0 (k + 1) y0 y1 y2 y3 y4 y5 y6))
  | 0 => fun _ _ _ _ _ _ _ r h => by simp [impl_GapTo.j0] at h
  | k + 1 => by
    have ih0 := impl_GapTo.mono_l k
    · intro y0 y1 y2 y3 y4 y5 y6
      unfold impl_GapTo.j0
      repeat' first
      | (with_reducible exact ih0 _ _ _ _ _ _ _)
      | (with_reducible exact impl_CmpAddr.mono _ _ _ _ _ _ _)
      | (with_reducible exact LeO.refl _)
      | (with_reducible exact LeO.none _)
      | (with_reducible refine LeO.ite ?_ ?_)
      | (with_reducible refine LeO.bind ?_ (fun _ => ?_))
      | exact ih0 _ _ _ _ _ _ _
      | exact impl_CmpAddr.mono _ _ _ _ _ _ _
      | exact LeO.none _
      | refine LeO.ite ?_ ?_
      | refine LeO.bind ?_ (fun _ => ?_)
theorem impl_GapTo.mono : ∀ a0 a1 a2 a3 a4 a5 k, LeO (impl_GapTo.f k a0 a1 a2 a3 a4 a5) (impl_GapTo.f (k + 1) a0 a1 a2 a3 a4 a5) := by
  intro a0 a1 a2 a3 a4 a5 k
  have ih0 := impl_GapTo.mono_l k
  unfold impl_GapTo.f
  repeat' first
      | (with_reducible exact ih0 _ _ _ _ _ _ _)
      | (with_reducible exact impl_CmpAddr.mono _ _ _ _ _ _ _)
      | (with_reducible exact LeO.refl _)
      | (with_reducible exact LeO.none _)
      | (with_reducible refine LeO.ite ?_ ?_)
      | (with_reducible refine LeO.bind ?_ (fun _ => ?_))
      | exact ih0 _ _ _ _ _ _ _
      | exact impl_CmpAddr.mono _ _ _ _ _ _ _
      | exact LeO.none _
      | refine LeO.ite ?_ ?_
      | refine LeO.bind ?_ (fun _ => ?_)
set_option maxHeartbeats 8000000 in
set_option maxRecDepth 100000 in
theorem impl_GapTo.calls (k : Nat) (a0_0 : Bool) (a0_1 : Int) (a0_2 : Int) (a1_0 : Bool) (a1_1 : Int) (a1_2 : Int) (r1 : Int) (r2 : Bool) (w : World) (h : impl_GapTo.f k a0_0 a0_1 a0_2 a1_0 a1_1 a1_2 = some (r1, r2)) :
    Calls Try.prog 17 #[.agg #[.bool a0_0, .int .i64 a0_1, .int .i64 a0_2], .agg #[.bool a1_0, .int .i64 a1_1, .int .i64 a1_2]] w fun e w' => e = .returned (.tuple #[.int .i64 r1, .bool r2]) ∧ Below w.heap.size w w' := by
  have hu26 := Try.underlying26
  have HB := Aside0.mk (Below.refl w.heap.size w)
  have H : ((impl_right.f a0_0 a0_1 a0_2).bind fun bt152 => ((impl_right.f a1_0 a1_1 a1_2).bind fun bt155 => (if (bt152.1 != bt155.1) = true then (impl_GapTo.j0 k true bt152.1 bt152.2.1 bt152.2.2 bt155.1 bt155.2.1 bt155.2.2) else ((impl_CmpAddr.f k bt155.1 bt155.2.1 bt155.2.2 bt152.1 bt152.2.1 bt152.2.2).bind fun t158 => (impl_GapTo.j0 k (decide (t158 < 0)) bt152.1 bt152.2.1 bt152.2.2 bt155.1 bt155.2.1 bt155.2.2))))) = some (r1, r2) := h
  clear h
  replace H := Option.bind_eq_some_iff.mp H
  obtain ⟨⟨t152, t153, t154⟩, A30, H⟩ := H
  replace H : ((impl_right.f a1_0 a1_1 a1_2).bind fun bt155 => (if (t152 != bt155.1) = true then (impl_GapTo.j0 k true t152 t153 t154 bt155.1 bt155.2.1 bt155.2.2) else ((impl_CmpAddr.f k bt155.1 bt155.2.1 bt155.2.2 t152 t153 t154).bind fun t158 => (impl_GapTo.j0 k (decide (t158 < 0)) t152 t153 t154 bt155.1 bt155.2.1 bt155.2.2)))) = some (r1, r2) := H
  have A3 := Aside0.mk A30
  clear A30
  replace H := Option.bind_eq_some_iff.mp H
  obtain ⟨⟨t155, t156, t157⟩, A40, H⟩ := H
  replace H : (if (t152 != t155) = true then (impl_GapTo.j0 k true t152 t153 t154 t155 t156 t157) else ((impl_CmpAddr.f k t155 t156 t157 t152 t153 t154).bind fun t158 => (impl_GapTo.j0 k (decide (t158 < 0)) t152 t153 t154 t155 t156 t157))) = some (r1, r2) := H
  have A4 := Aside0.mk A40
  clear A40
  have HC5 := Aside0.mk H
  clear H
  go_enter Try.func17, Try.ntmps17
  try go_wp2_with (first | ((with_reducible refine gate_dst (N := 2) rfl ?_); refine box_event ?hg (N := 2) ?hd (cs := #[.bool a0_0, .int .i64 a0_1, .int .i64 a0_2]) (t := 26) ?hr ?_; (case hd => rfl); (case hg => rfl); (case hr => first | (go_simp; done) | (go_simp; rfl)); intro gb150 hg w6 hbox hb; have n0_ := Aside0.mk (below_step (by repeat (first | (with_reducible first | exact HB.out | apply below_alloc | apply pw_below_drewN | apply below_drew1) | exact HB.out)) hb); have n1_ := Aside0.mk (hbox); have n2_ := Aside0.mk ((by rw [hg]; exact (below_size (by repeat (first | (with_reducible first | exact HB.out | apply below_alloc | apply pw_below_drewN | apply below_drew1) | exact HB.out))) : w.heap.size ≤ gb150)); have n3_ := Aside0.mk ((by rw [hg]; exact (below_size (by repeat (first | (with_reducible first | exact HB.out | apply below_alloc | apply pw_below_drewN | apply below_drew1) | exact HB.out))) : w.heap.size ≤ gb150)); clear HB; have HB := n0_; have BK150 := n1_; have GW150 := n2_; have GE150 := n3_; clear n0_ n1_ n2_ n3_; clear hb hbox hg) | ((with_reducible refine gate_dst (N := 3) rfl ?_); refine box_event ?hg (N := 3) ?hd (cs := #[.bool a1_0, .int .i64 a1_1, .int .i64 a1_2]) (t := 26) ?hr ?_; (case hd => rfl); (case hg => rfl); (case hr => first | (go_simp; done) | (go_simp; rfl)); intro gb151 hg w7 hbox hb; have n0_ := Aside0.mk (blk_below (g := gb150) (o := .cells #[.bool a0_0, .int .i64 a0_1, .int .i64 a0_2] 26 (0, 0)) (by (with_reducible repeat (first | refine blk_drewN ?_ _ | refine blk_drew ?_ | refine blk_alloc ?_ _)); exact BK150.out) hb); have n1_ := Aside0.mk (below_step (by repeat (first | (with_reducible first | exact HB.out | apply below_alloc | apply pw_below_drewN | apply below_drew1 | refine below_set ?_ GE150.out) | exact HB.out)) hb); have n2_ := Aside0.mk (hbox); have n3_ := Aside0.mk ((by rw [hg]; exact (below_size (by repeat (first | (with_reducible first | exact HB.out | apply below_alloc | apply pw_below_drewN | apply below_drew1 | refine below_set ?_ GE150.out) | exact HB.out))) : w.heap.size ≤ gb151)); have n4_ := Aside0.mk ((by rw [hg]; exact (below_size (by repeat (first | (with_reducible first | exact HB.out | apply below_alloc | apply pw_below_drewN | apply below_drew1 | refine below_set ?_ GE150.out) | exact HB.out))) : w.heap.size ≤ gb151)); have n5_ := Aside0.mk ((by rw [hg]; exact Nat.ne_of_lt (blk_lt (g := gb150) (o := .cells #[.bool a0_0, .int .i64 a0_1, .int .i64 a0_2] 26 (0, 0)) (by (with_reducible repeat (first | refine blk_drewN ?_ _ | refine blk_drew ?_ | refine blk_alloc ?_ _)); exact BK150.out)) : gb150 ≠ gb151)); have n6_ := Aside0.mk ((by rw [hg]; exact Nat.ne_of_gt (blk_lt (g := gb150) (o := .cells #[.bool a0_0, .int .i64 a0_1, .int .i64 a0_2] 26 (0, 0)) (by (with_reducible repeat (first | refine blk_drewN ?_ _ | refine blk_drew ?_ | refine blk_alloc ?_ _)); exact BK150.out)) : gb151 ≠ gb150)); clear BK150; clear HB; have BK150 := n0_; have HB := n1_; have BK151 := n2_; have GW151 := n3_; have GE151 := n4_; have NB150_151 := n5_; have NB151_150 := n6_; clear n0_ n1_ n2_ n3_ n4_ n5_ n6_; clear hb hbox hg))
  have n0_ := Aside0.mk (blk_drew BK150.out)
  have n1_ := Aside0.mk (blk_drew BK151.out)
  have n2_ := Aside0.mk (below_drew1 HB.out)
  clear BK150
  clear BK151
  clear HB
  have BK150 := n0_
  have BK151 := n1_
  have HB := n2_
  clear n0_ n1_ n2_
  refine start_ (n := 6) (S := fun w' => w'.cell? ⟨gb150, 0, none⟩ = some (.bool a0_0) ∧ w'.cell? ⟨gb150, 1, none⟩ = some (.int .i64 a0_1) ∧ w'.cell? ⟨gb150, 2, none⟩ = some (.int .i64 a0_2) ∧ w'.cell? ⟨gb151, 0, none⟩ = some (.bool a1_0) ∧ w'.cell? ⟨gb151, 1, none⟩ = some (.int .i64 a1_1) ∧ w'.cell? ⟨gb151, 2, none⟩ = some (.int .i64 a1_2)) (ds := [4, 5]) #[false, false, false, false, false, false] (by kernel_rfl) rfl rfl ⟨(blk_cell BK150.out 0).trans rfl, (blk_cell BK150.out 1).trans rfl, (blk_cell BK150.out 2).trans rfl, (blk_cell BK151.out 0).trans rfl, (blk_cell BK151.out 1).trans rfl, (blk_cell BK151.out 2).trans rfl⟩ (fun hHeld => ?_)
  generalize w7.drew = w8 at BK150 BK151 HB hHeld ⊢
  refine take_ (i := 0) (N := some 10) (v := ?_) (a' := ?_) #[true, false, false, false, false, false] rfl rfl (by kernel_rfl) (fun _ _ _ h => h) (Or.inl ⟨by rfl, ?_⟩) hHeld ?_ ?_
  rotate_left
  · rintro w' ⟨s0, s1, s2, s3, s4, s5⟩
    go_simp
    with_reducible rfl
  rotate_left
  · simp only [Act.put, List.setIfInBounds_toArray, List.set_cons_zero, List.set_cons_succ, i64_w, i32_w]
    rfl
  refine take_ (i := 2) (N := some 12) (v := ?_) (a' := ?_) #[true, false, true, false, false, false] rfl rfl (by kernel_rfl) (fun _ _ _ h => h) (Or.inl ⟨by rfl, ?_⟩) hHeld ?_ ?_
  rotate_left
  · rintro w' ⟨s0, s1, s2, s3, s4, s5⟩
    go_simp
    with_reducible rfl
  rotate_left
  · simp only [Act.put, List.setIfInBounds_toArray, List.set_cons_zero, List.set_cons_succ, i64_w, i32_w]
    rfl
  refine one_ (i := 1) (N := some 11) #[true, true, true, false, false, false] rfl rfl (by kernel_rfl) (by decide) (fun K hK => ?_)
  refine goes_ Try.func63 (by kernel_rfl) rfl #[.agg #[.bool a0_0, .int .i64 a0_1, .int .i64 a0_2]] (by rfl) rfl rfl (by (try simp only [List.map_toArray, List.map_cons, List.map_nil]); first | done | rfl | (simp only [List.length_drop, List.length_take]; rfl)) ?_
  with_reducible refine (impl_right.calls a0_0 a0_1 a0_2 t152 t153 t154 _ A3.out).mono ?_
  rintro e w9 ⟨rfl, hb⟩
  refine ⟨_, rfl, ?_⟩
  have n0_ := Aside0.mk (blk_below (g := gb150) (o := .cells #[.bool a0_0, .int .i64 a0_1, .int .i64 a0_2] 26 (0, 0)) (by (with_reducible repeat (first | refine blk_drewN ?_ _ | refine blk_drew ?_ | refine blk_alloc ?_ _)); exact BK150.out) hb)
  have n1_ := Aside0.mk (blk_below (g := gb151) (o := .cells #[.bool a1_0, .int .i64 a1_1, .int .i64 a1_2] 26 (0, 0)) (by (with_reducible repeat (first | refine blk_drewN ?_ _ | refine blk_drew ?_ | refine blk_alloc ?_ _)); exact BK151.out) hb)
  have n2_ := Aside0.mk (below_step (by repeat (first | (with_reducible first | exact HB.out | apply below_alloc | apply pw_below_drewN | apply below_drew1 | refine below_set ?_ GE150.out | refine below_set ?_ GE151.out) | exact HB.out)) hb)
  clear BK150
  clear BK151
  clear HB
  have BK150 := n0_
  have BK151 := n1_
  have HB := n2_
  clear n0_ n1_ n2_
  (try clear hb)
  (try clear hb2)
  (try clear hk)
  (try clear hi)
  refine hK.out _ _ ⟨(blk_cell BK150.out 0).trans rfl, (blk_cell BK150.out 1).trans rfl, (blk_cell BK150.out 2).trans rfl, (blk_cell BK151.out 0).trans rfl, (blk_cell BK151.out 1).trans rfl, (blk_cell BK151.out 2).trans rfl⟩ (fun hHeld => ?_)
  clear hK K
  refine norm_ (a' := ?_) ?_ ?_
  rotate_left
  · show Act.put _ (some 11) _ = _
    simp only [Act.put, List.setIfInBounds_toArray, List.set_cons_zero, List.set_cons_succ, i64_w, i32_w]
    rfl
  refine one_ (i := 3) (N := some 13) #[true, true, true, true, false, false] rfl rfl (by kernel_rfl) (by decide) (fun K hK => ?_)
  refine goes_ Try.func63 (by kernel_rfl) rfl #[.agg #[.bool a1_0, .int .i64 a1_1, .int .i64 a1_2]] (by rfl) rfl rfl (by (try simp only [List.map_toArray, List.map_cons, List.map_nil]); first | done | rfl | (simp only [List.length_drop, List.length_take]; rfl)) ?_
  with_reducible refine (impl_right.calls a1_0 a1_1 a1_2 t155 t156 t157 _ A4.out).mono ?_
  rintro e w10 ⟨rfl, hb⟩
  refine ⟨_, rfl, ?_⟩
  have n0_ := Aside0.mk (blk_below (g := gb150) (o := .cells #[.bool a0_0, .int .i64 a0_1, .int .i64 a0_2] 26 (0, 0)) (by (with_reducible repeat (first | refine blk_drewN ?_ _ | refine blk_drew ?_ | refine blk_alloc ?_ _)); exact BK150.out) hb)
  have n1_ := Aside0.mk (blk_below (g := gb151) (o := .cells #[.bool a1_0, .int .i64 a1_1, .int .i64 a1_2] 26 (0, 0)) (by (with_reducible repeat (first | refine blk_drewN ?_ _ | refine blk_drew ?_ | refine blk_alloc ?_ _)); exact BK151.out) hb)
  have n2_ := Aside0.mk (below_step (by repeat (first | (with_reducible first | exact HB.out | apply below_alloc | apply pw_below_drewN | apply below_drew1 | refine below_set ?_ GE150.out | refine below_set ?_ GE151.out) | exact HB.out)) hb)
  clear BK150
  clear BK151
  clear HB
  have BK150 := n0_
  have BK151 := n1_
  have HB := n2_
  clear n0_ n1_ n2_
  (try clear hb)
  (try clear hb2)
  (try clear hk)
  (try clear hi)
  refine hK.out _ _ ⟨(blk_cell BK150.out 0).trans rfl, (blk_cell BK150.out 1).trans rfl, (blk_cell BK150.out 2).trans rfl, (blk_cell BK151.out 0).trans rfl, (blk_cell BK151.out 1).trans rfl, (blk_cell BK151.out 2).trans rfl⟩ (fun hHeld => ?_)
  clear hK K
  refine norm_ (a' := ?_) ?_ ?_
  rotate_left
  · show Act.put _ (some 13) _ = _
    simp only [Act.put, List.setIfInBounds_toArray, List.set_cons_zero, List.set_cons_succ, i64_w, i32_w]
    rfl
  refine last_ (i := 4) (N := none) #[true, true, true, true, true, false] rfl rfl (by kernel_rfl) (by decide) (fun K hK => ?_)
  have hs11 : w10.cell? ⟨gb150, 0, none⟩ = some (.bool a0_0) := (blk_cell BK150.out 0).trans rfl
  have hfs11 := blk_frozen BK150.out 0
  have hns11_1 := NB151_150.out
  have hms11_1 := NB150_151.out
  have hs12 : w10.cell? ⟨gb150, 1, none⟩ = some (.int .i64 a0_1) := (blk_cell BK150.out 1).trans rfl
  have hfs12 := blk_frozen BK150.out 1
  have hns12_1 := NB151_150.out
  have hms12_1 := NB150_151.out
  have hs13 : w10.cell? ⟨gb150, 2, none⟩ = some (.int .i64 a0_2) := (blk_cell BK150.out 2).trans rfl
  have hfs13 := blk_frozen BK150.out 2
  have hns13_1 := NB151_150.out
  have hms13_1 := NB150_151.out
  refine skip_ (w1 := ?_) (by rfl) rfl ?_ ?_
  rotate_left
  · go_simp
    rfl
  refine hK.out _ _ ?_
  clear hK K
  refine last_ (i := 5) (N := none) #[true, true, true, true, true, true] rfl rfl (by kernel_rfl) (by decide) (fun K hK => ?_)
  have hs14 : w10.cell? ⟨gb151, 0, none⟩ = some (.bool a1_0) := (blk_cell BK151.out 0).trans rfl
  have hfs14 := blk_frozen BK151.out 0
  have hns14_0 := NB150_151.out
  have hms14_0 := NB151_150.out
  have hs15 : w10.cell? ⟨gb151, 1, none⟩ = some (.int .i64 a1_1) := (blk_cell BK151.out 1).trans rfl
  have hfs15 := blk_frozen BK151.out 1
  have hns15_0 := NB150_151.out
  have hms15_0 := NB151_150.out
  have hs16 : w10.cell? ⟨gb151, 2, none⟩ = some (.int .i64 a1_2) := (blk_cell BK151.out 2).trans rfl
  have hfs16 := blk_frozen BK151.out 2
  have hns16_0 := NB150_151.out
  have hms16_0 := NB151_150.out
  refine skip_ (w1 := ?_) (by rfl) rfl ?_ ?_
  rotate_left
  · go_simp
    rfl
  refine hK.out _ _ ?_
  clear hK K
  refine done_ (by kernel_rfl) ?_
  go_upto_region 2 with (fail)
  go_cut [24] (fun v24 wc => ∃ (kq : Nat) (x24_4 : Bool), v24 = .bool x24_4 ∧ Aside0 (impl_GapTo.j0 kq x24_4 t152 t153 t154 t155 t156 t157 = some (r1, r2)) ∧ Aside0 (kq ≤ k) ∧ Aside0 (wc.heap[gb150]? = some (.cells #[.bool t152, .int .i64 t153, .int .i64 t154] 26 (0, 0))) ∧ Aside0 (wc.heap[gb151]? = some (.cells #[.bool t155, .int .i64 t156, .int .i64 t157] 26 (0, 0))) ∧ Aside0 (Below w.heap.size w wc))
  case first =>
    have H := HC5.out
    clear HC5
    by_cases c17 : (t152 != t155) = true
    · rw [if_pos c17] at H
      have c17b0 : (t152 != t155) = true := c17
      (try (have c17b1 : decide (t152 = t155) = false := by simpa using c17))
      (try (have c17b2 : (t152 == t155) = false := by simpa using c17))
      (try (have c17b3 : ¬ (t152 = t155) := by simpa using c17))
      clear c17
      (first | rw [c17b0] | (simp only [i64_w, i32_w]; rw [c17b0]) | skip)
      have H' := Aside0.mk H
      clear H
      have hnb18 := NB150_151.out
      have hnc18 := NB151_150.out
      have hcz19_0 : w10.cell? ⟨gb150, 0, none⟩ = some (.bool a0_0) := (blk_cell BK150.out 0).trans rfl
      have hcz19_1 : w10.cell? ⟨gb150, 1, none⟩ = some (.int .i64 a0_1) := (blk_cell BK150.out 1).trans rfl
      have hcz19_2 : w10.cell? ⟨gb150, 2, none⟩ = some (.int .i64 a0_2) := (blk_cell BK150.out 2).trans rfl
      have hfz19_0 := blk_frozen BK150.out 0
      have hfz19_1 := blk_frozen BK150.out 1
      have hfz19_2 := blk_frozen BK150.out 2
      have hcz20_0 : w10.cell? ⟨gb151, 0, none⟩ = some (.bool a1_0) := (blk_cell BK151.out 0).trans rfl
      have hcz20_1 : w10.cell? ⟨gb151, 1, none⟩ = some (.int .i64 a1_1) := (blk_cell BK151.out 1).trans rfl
      have hcz20_2 : w10.cell? ⟨gb151, 2, none⟩ = some (.int .i64 a1_2) := (blk_cell BK151.out 2).trans rfl
      have hfz20_0 := blk_frozen BK151.out 0
      have hfz20_1 := blk_frozen BK151.out 1
      have hfz20_2 := blk_frozen BK151.out 2
      go_wp2
      go_meet
      case rel => exact ⟨_, (true), (by first | rfl | (simp; done) | (simp [*]; done)), H', ⟨by first | omega | exact Nat.le_refl _⟩, ⟨by (with_reducible repeat (first | refine blk_drewN ?_ _ | refine blk_drew ?_ | refine blk_alloc ?_ _)); refine blk_far ?_ NB150_151.out _; (with_reducible repeat (first | refine blk_drewN ?_ _ | refine blk_drew ?_ | refine blk_alloc ?_ _)); refine blk_far ?_ NB150_151.out _; (with_reducible repeat (first | refine blk_drewN ?_ _ | refine blk_drew ?_ | refine blk_alloc ?_ _)); refine blk_far ?_ NB150_151.out _; (with_reducible repeat (first | refine blk_drewN ?_ _ | refine blk_drew ?_ | refine blk_alloc ?_ _)); refine blk_put (cs := #[.bool t152, .int .i64 t153, .int .i64 a0_2]) ?_ 2 _ rfl; (with_reducible repeat (first | refine blk_drewN ?_ _ | refine blk_drew ?_ | refine blk_alloc ?_ _)); refine blk_put (cs := #[.bool t152, .int .i64 a0_1, .int .i64 a0_2]) ?_ 1 _ rfl; (with_reducible repeat (first | refine blk_drewN ?_ _ | refine blk_drew ?_ | refine blk_alloc ?_ _)); refine blk_put (cs := #[.bool a0_0, .int .i64 a0_1, .int .i64 a0_2]) ?_ 0 _ rfl; (with_reducible repeat (first | refine blk_drewN ?_ _ | refine blk_drew ?_ | refine blk_alloc ?_ _)); exact BK150.out⟩, ⟨by (with_reducible repeat (first | refine blk_drewN ?_ _ | refine blk_drew ?_ | refine blk_alloc ?_ _)); refine blk_put (cs := #[.bool t155, .int .i64 t156, .int .i64 a1_2]) ?_ 2 _ rfl; (with_reducible repeat (first | refine blk_drewN ?_ _ | refine blk_drew ?_ | refine blk_alloc ?_ _)); refine blk_put (cs := #[.bool t155, .int .i64 a1_1, .int .i64 a1_2]) ?_ 1 _ rfl; (with_reducible repeat (first | refine blk_drewN ?_ _ | refine blk_drew ?_ | refine blk_alloc ?_ _)); refine blk_put (cs := #[.bool a1_0, .int .i64 a1_1, .int .i64 a1_2]) ?_ 0 _ rfl; (with_reducible repeat (first | refine blk_drewN ?_ _ | refine blk_drew ?_ | refine blk_alloc ?_ _)); refine blk_far ?_ NB151_150.out _; (with_reducible repeat (first | refine blk_drewN ?_ _ | refine blk_drew ?_ | refine blk_alloc ?_ _)); refine blk_far ?_ NB151_150.out _; (with_reducible repeat (first | refine blk_drewN ?_ _ | refine blk_drew ?_ | refine blk_alloc ?_ _)); refine blk_far ?_ NB151_150.out _; (with_reducible repeat (first | refine blk_drewN ?_ _ | refine blk_drew ?_ | refine blk_alloc ?_ _)); exact BK151.out⟩, ⟨by repeat (first | (with_reducible first | exact HB.out | apply below_alloc | apply pw_below_drewN | apply below_drew1 | refine below_set ?_ GE150.out | refine below_set ?_ GE151.out) | exact HB.out)⟩⟩
    · rw [if_neg c17] at H
      have c17b0 : (t152 != t155) = false := by simpa using c17
      (try (have c17b1 : decide (t152 = t155) = true := by simpa using c17))
      (try (have c17b2 : (t152 == t155) = true := by simpa using c17))
      clear c17
      (first | rw [c17b0] | (simp only [i64_w, i32_w]; rw [c17b0]) | skip)
      replace H := Option.bind_eq_some_iff.mp H
      obtain ⟨t158, A210, H⟩ := H
      replace H : (impl_GapTo.j0 k (decide (t158 < 0)) t152 t153 t154 t155 t156 t157) = some (r1, r2) := H
      have A21 := Aside0.mk A210
      clear A210
      have H' := Aside0.mk H
      clear H
      have hnb22 := NB150_151.out
      have hnc22 := NB151_150.out
      have hcz23_0 : w10.cell? ⟨gb150, 0, none⟩ = some (.bool a0_0) := (blk_cell BK150.out 0).trans rfl
      have hcz23_1 : w10.cell? ⟨gb150, 1, none⟩ = some (.int .i64 a0_1) := (blk_cell BK150.out 1).trans rfl
      have hcz23_2 : w10.cell? ⟨gb150, 2, none⟩ = some (.int .i64 a0_2) := (blk_cell BK150.out 2).trans rfl
      have hfz23_0 := blk_frozen BK150.out 0
      have hfz23_1 := blk_frozen BK150.out 1
      have hfz23_2 := blk_frozen BK150.out 2
      have hcz24_0 : w10.cell? ⟨gb151, 0, none⟩ = some (.bool a1_0) := (blk_cell BK151.out 0).trans rfl
      have hcz24_1 : w10.cell? ⟨gb151, 1, none⟩ = some (.int .i64 a1_1) := (blk_cell BK151.out 1).trans rfl
      have hcz24_2 : w10.cell? ⟨gb151, 2, none⟩ = some (.int .i64 a1_2) := (blk_cell BK151.out 2).trans rfl
      have hfz24_0 := blk_frozen BK151.out 0
      have hfz24_1 := blk_frozen BK151.out 1
      have hfz24_2 := blk_frozen BK151.out 2
      go_wp2_with (first | (go_at_call 64; (with_reducible refine (impl_CmpAddr.calls k t155 t156 t157 t152 t153 t154 t158 _ A21.out).mono ?_); rintro e w25 ⟨rfl, hb⟩; have n0_ := Aside0.mk (blk_below (g := gb150) (o := .cells #[.bool t152, .int .i64 t153, .int .i64 t154] 26 (0, 0)) (by (with_reducible repeat (first | refine blk_drewN ?_ _ | refine blk_drew ?_ | refine blk_alloc ?_ _)); refine blk_far ?_ NB150_151.out _; (with_reducible repeat (first | refine blk_drewN ?_ _ | refine blk_drew ?_ | refine blk_alloc ?_ _)); refine blk_far ?_ NB150_151.out _; (with_reducible repeat (first | refine blk_drewN ?_ _ | refine blk_drew ?_ | refine blk_alloc ?_ _)); refine blk_far ?_ NB150_151.out _; (with_reducible repeat (first | refine blk_drewN ?_ _ | refine blk_drew ?_ | refine blk_alloc ?_ _)); refine blk_put (cs := #[.bool t152, .int .i64 t153, .int .i64 a0_2]) ?_ 2 _ rfl; (with_reducible repeat (first | refine blk_drewN ?_ _ | refine blk_drew ?_ | refine blk_alloc ?_ _)); refine blk_put (cs := #[.bool t152, .int .i64 a0_1, .int .i64 a0_2]) ?_ 1 _ rfl; (with_reducible repeat (first | refine blk_drewN ?_ _ | refine blk_drew ?_ | refine blk_alloc ?_ _)); refine blk_put (cs := #[.bool a0_0, .int .i64 a0_1, .int .i64 a0_2]) ?_ 0 _ rfl; (with_reducible repeat (first | refine blk_drewN ?_ _ | refine blk_drew ?_ | refine blk_alloc ?_ _)); exact BK150.out) hb); have n1_ := Aside0.mk (blk_below (g := gb151) (o := .cells #[.bool t155, .int .i64 t156, .int .i64 t157] 26 (0, 0)) (by (with_reducible repeat (first | refine blk_drewN ?_ _ | refine blk_drew ?_ | refine blk_alloc ?_ _)); refine blk_put (cs := #[.bool t155, .int .i64 t156, .int .i64 a1_2]) ?_ 2 _ rfl; (with_reducible repeat (first | refine blk_drewN ?_ _ | refine blk_drew ?_ | refine blk_alloc ?_ _)); refine blk_put (cs := #[.bool t155, .int .i64 a1_1, .int .i64 a1_2]) ?_ 1 _ rfl; (with_reducible repeat (first | refine blk_drewN ?_ _ | refine blk_drew ?_ | refine blk_alloc ?_ _)); refine blk_put (cs := #[.bool a1_0, .int .i64 a1_1, .int .i64 a1_2]) ?_ 0 _ rfl; (with_reducible repeat (first | refine blk_drewN ?_ _ | refine blk_drew ?_ | refine blk_alloc ?_ _)); refine blk_far ?_ NB151_150.out _; (with_reducible repeat (first | refine blk_drewN ?_ _ | refine blk_drew ?_ | refine blk_alloc ?_ _)); refine blk_far ?_ NB151_150.out _; (with_reducible repeat (first | refine blk_drewN ?_ _ | refine blk_drew ?_ | refine blk_alloc ?_ _)); refine blk_far ?_ NB151_150.out _; (with_reducible repeat (first | refine blk_drewN ?_ _ | refine blk_drew ?_ | refine blk_alloc ?_ _)); exact BK151.out) hb); have n2_ := Aside0.mk (below_step (by repeat (first | (with_reducible first | exact HB.out | apply below_alloc | apply pw_below_drewN | apply below_drew1 | refine below_set ?_ GE150.out | refine below_set ?_ GE151.out) | exact HB.out)) hb); clear BK150; clear BK151; clear HB; have BK150 := n0_; have BK151 := n1_; have HB := n2_; clear n0_ n1_ n2_; (try clear hb); (try clear hb2); (try clear hk); (try clear hi)))
      go_meet
      case rel => exact ⟨_, (decide (t158 < 0)), (by first | rfl | (simp; done) | (simp [*]; done)), H', ⟨by first | omega | exact Nat.le_refl _⟩, ⟨by (with_reducible repeat (first | refine blk_drewN ?_ _ | refine blk_drew ?_ | refine blk_alloc ?_ _)); exact BK150.out⟩, ⟨by (with_reducible repeat (first | refine blk_drewN ?_ _ | refine blk_drew ?_ | refine blk_alloc ?_ _)); exact BK151.out⟩, ⟨by repeat (first | (with_reducible first | exact HB.out | apply below_alloc | apply pw_below_drewN | apply below_drew1 | refine below_set ?_ GE150.out | refine below_set ?_ GE151.out) | exact HB.out)⟩⟩
  case rest =>
    clear HC5
    try clear c1
    try clear c2
    try clear p2
    try clear c6
    try clear c17
    try clear c17b0
    try clear c17b1
    try clear c17b2
    try clear c18
    try clear c22
    try clear hcz19_0
    try clear hcz19_1
    try clear hcz19_2
    try clear hcz20_0
    try clear hcz20_1
    try clear hcz20_2
    try clear hcz23_0
    try clear hcz23_1
    try clear hcz23_2
    try clear hcz24_0
    try clear hcz24_1
    try clear hcz24_2
    try clear hfz19_0
    try clear hfz19_1
    try clear hfz19_2
    try clear hfz20_0
    try clear hfz20_1
    try clear hfz20_2
    try clear hfz23_0
    try clear hfz23_1
    try clear hfz23_2
    try clear hfz24_0
    try clear hfz24_1
    try clear hfz24_2
    obtain ⟨kq, x24_4, rfl, HA, HJ4, BK150, BK151, HB⟩ := hcut
    cases kq with
    | zero => exact absurd HA.out (by simp [impl_GapTo.j0])
    | succ kj4 =>
      have H := HA.out
      clear HA
      simp only [impl_GapTo.j0] at H
      by_cases c26 : x24_4 = true
      · subst c26
        have H1 : (some (0, false)) = some (r1, r2) := by rw [if_pos rfl] at H; exact H
        clear H
        have H := H1
        clear H1
        simp only [Option.some.injEq, Prod.mk.injEq] at H
        obtain ⟨rfl, rfl⟩ := H
        go_wp2
        go_ret2
        exact ⟨by first | rfl | (simp [errW_none, errW_some] <;> rfl) | (simp [*, errW_none, errW_some] <;> rfl), by repeat (first | (with_reducible first | exact HB.out | apply below_alloc | apply pw_below_drewN | apply below_drew1 | refine below_set ?_ GE150.out | refine below_set ?_ GE151.out) | exact HB.out)⟩
      · replace c26 := Bool.eq_false_iff.mpr c26
        subst c26
        have H1 : (if (sub64s (IntKind.u64.wrap (t156)) (IntKind.u64.wrap (t153)) (sub64c (IntKind.u64.wrap (t157)) (IntKind.u64.wrap (t154)) 0)) = 0 then (if (wrap64 (sub64s (IntKind.u64.wrap (t157)) (IntKind.u64.wrap (t154)) 0)) < 0 then (some (0, false)) else (some (wrap64 (sub64s (IntKind.u64.wrap (t157)) (IntKind.u64.wrap (t154)) 0), true))) else (some (0, false))) = some (r1, r2) := by rw [if_neg (show ¬ (false = true) by decide)] at H; exact H
        clear H
        have H := H1
        clear H1
        have hcarry27 := sub64_run (IntKind.u64.wrap (t157)) (IntKind.u64.wrap (t154)) 0 (by first | decide | exact u64w_nn _) (by first | decide | exact u64w_nn _) (by first | decide | exact sub64c_nn _ _) (by first | decide | exact sub64c_le _ _)
        have hcarry28 := sub64_run (IntKind.u64.wrap (t156)) (IntKind.u64.wrap (t153)) (sub64c (IntKind.u64.wrap (t157)) (IntKind.u64.wrap (t154)) 0) (by first | decide | exact u64w_nn _) (by first | decide | exact u64w_nn _) (by first | decide | exact sub64c_nn _ _) (by first | decide | exact sub64c_le _ _)
        by_cases c29 : (sub64s (IntKind.u64.wrap (t156)) (IntKind.u64.wrap (t153)) (sub64c (IntKind.u64.wrap (t157)) (IntKind.u64.wrap (t154)) 0)) = 0
        · rw [if_pos c29] at H
          have c29b0 : ((sub64s (IntKind.u64.wrap (t156)) (IntKind.u64.wrap (t153)) (sub64c (IntKind.u64.wrap (t157)) (IntKind.u64.wrap (t154)) 0)) == 0) = true := beq_iff_eq.mpr c29
          have c29b1 : ((sub64s (IntKind.u64.wrap (t156)) (IntKind.u64.wrap (t153)) (sub64c (IntKind.u64.wrap (t157)) (IntKind.u64.wrap (t154)) 0)) != 0) = false := bne_eq_false_iff_eq.mpr c29
          clear c29
          by_cases c30 : (wrap64 (sub64s (IntKind.u64.wrap (t157)) (IntKind.u64.wrap (t154)) 0)) < 0
          · rw [if_pos c30] at H
            have c30b0 : decide ((wrap64 (sub64s (IntKind.u64.wrap (t157)) (IntKind.u64.wrap (t154)) 0)) < 0) = true := decide_eq_true c30
            clear c30
            simp only [Option.some.injEq, Prod.mk.injEq] at H
            obtain ⟨rfl, rfl⟩ := H
            have hnb31 := NB151_150.out
            have hnc31 := NB150_151.out
            have hcz32_0 : wc.cell? ⟨gb151, 0, none⟩ = some (.bool t155) := (blk_cell BK151.out 0).trans rfl
            have hcz32_1 : wc.cell? ⟨gb151, 1, none⟩ = some (.int .i64 t156) := (blk_cell BK151.out 1).trans rfl
            have hcz32_2 : wc.cell? ⟨gb151, 2, none⟩ = some (.int .i64 t157) := (blk_cell BK151.out 2).trans rfl
            have hfz32_0 := blk_frozen BK151.out 0
            have hfz32_1 := blk_frozen BK151.out 1
            have hfz32_2 := blk_frozen BK151.out 2
            have hcz33_0 : wc.cell? ⟨gb150, 0, none⟩ = some (.bool t152) := (blk_cell BK150.out 0).trans rfl
            have hcz33_1 : wc.cell? ⟨gb150, 1, none⟩ = some (.int .i64 t153) := (blk_cell BK150.out 1).trans rfl
            have hcz33_2 : wc.cell? ⟨gb150, 2, none⟩ = some (.int .i64 t154) := (blk_cell BK150.out 2).trans rfl
            have hfz33_0 := blk_frozen BK150.out 0
            have hfz33_1 := blk_frozen BK150.out 1
            have hfz33_2 := blk_frozen BK150.out 2
            go_wp2
            go_ret2
            exact ⟨by first | rfl | (simp [errW_none, errW_some] <;> rfl) | (simp [*, errW_none, errW_some] <;> rfl), by repeat (first | (with_reducible first | exact HB.out | apply below_alloc | apply pw_below_drewN | apply below_drew1 | refine below_set ?_ GE150.out | refine below_set ?_ GE151.out) | exact HB.out)⟩
          · rw [if_neg c30] at H
            have c30b0 : decide ((wrap64 (sub64s (IntKind.u64.wrap (t157)) (IntKind.u64.wrap (t154)) 0)) < 0) = false := decide_eq_false c30
            clear c30
            simp only [Option.some.injEq, Prod.mk.injEq] at H
            obtain ⟨rfl, rfl⟩ := H
            have hnb34 := NB151_150.out
            have hnc34 := NB150_151.out
            have hcz35_0 : wc.cell? ⟨gb151, 0, none⟩ = some (.bool t155) := (blk_cell BK151.out 0).trans rfl
            have hcz35_1 : wc.cell? ⟨gb151, 1, none⟩ = some (.int .i64 t156) := (blk_cell BK151.out 1).trans rfl
            have hcz35_2 : wc.cell? ⟨gb151, 2, none⟩ = some (.int .i64 t157) := (blk_cell BK151.out 2).trans rfl
            have hfz35_0 := blk_frozen BK151.out 0
            have hfz35_1 := blk_frozen BK151.out 1
            have hfz35_2 := blk_frozen BK151.out 2
            have hcz36_0 : wc.cell? ⟨gb150, 0, none⟩ = some (.bool t152) := (blk_cell BK150.out 0).trans rfl
            have hcz36_1 : wc.cell? ⟨gb150, 1, none⟩ = some (.int .i64 t153) := (blk_cell BK150.out 1).trans rfl
            have hcz36_2 : wc.cell? ⟨gb150, 2, none⟩ = some (.int .i64 t154) := (blk_cell BK150.out 2).trans rfl
            have hfz36_0 := blk_frozen BK150.out 0
            have hfz36_1 := blk_frozen BK150.out 1
            have hfz36_2 := blk_frozen BK150.out 2
            go_wp2
            go_ret2
            exact ⟨by first | rfl | (simp [errW_none, errW_some] <;> rfl) | (simp [*, errW_none, errW_some] <;> rfl), by repeat (first | (with_reducible first | exact HB.out | apply below_alloc | apply pw_below_drewN | apply below_drew1 | refine below_set ?_ GE150.out | refine below_set ?_ GE151.out) | exact HB.out)⟩
        · rw [if_neg c29] at H
          have c29b0 : ((sub64s (IntKind.u64.wrap (t156)) (IntKind.u64.wrap (t153)) (sub64c (IntKind.u64.wrap (t157)) (IntKind.u64.wrap (t154)) 0)) == 0) = false := beq_eq_false_iff_ne.mpr c29
          have c29b1 : ((sub64s (IntKind.u64.wrap (t156)) (IntKind.u64.wrap (t153)) (sub64c (IntKind.u64.wrap (t157)) (IntKind.u64.wrap (t154)) 0)) != 0) = true := bne_iff_ne.mpr c29
          simp only [Option.some.injEq, Prod.mk.injEq] at H
          obtain ⟨rfl, rfl⟩ := H
          have hnb37 := NB151_150.out
          have hnc37 := NB150_151.out
          have hcz38_0 : wc.cell? ⟨gb151, 0, none⟩ = some (.bool t155) := (blk_cell BK151.out 0).trans rfl
          have hcz38_1 : wc.cell? ⟨gb151, 1, none⟩ = some (.int .i64 t156) := (blk_cell BK151.out 1).trans rfl
          have hcz38_2 : wc.cell? ⟨gb151, 2, none⟩ = some (.int .i64 t157) := (blk_cell BK151.out 2).trans rfl
          have hfz38_0 := blk_frozen BK151.out 0
          have hfz38_1 := blk_frozen BK151.out 1
          have hfz38_2 := blk_frozen BK151.out 2
          have hcz39_0 : wc.cell? ⟨gb150, 0, none⟩ = some (.bool t152) := (blk_cell BK150.out 0).trans rfl
          have hcz39_1 : wc.cell? ⟨gb150, 1, none⟩ = some (.int .i64 t153) := (blk_cell BK150.out 1).trans rfl
          have hcz39_2 : wc.cell? ⟨gb150, 2, none⟩ = some (.int .i64 t154) := (blk_cell BK150.out 2).trans rfl
          have hfz39_0 := blk_frozen BK150.out 0
          have hfz39_1 := blk_frozen BK150.out 1
          have hfz39_2 := blk_frozen BK150.out 2
          go_wp2
          go_ret2
          exact ⟨by first | rfl | (simp [errW_none, errW_some] <;> rfl) | (simp [*, errW_none, errW_some] <;> rfl), by repeat (first | (with_reducible first | exact HB.out | apply below_alloc | apply pw_below_drewN | apply below_drew1 | refine below_set ?_ GE150.out | refine below_set ?_ GE151.out) | exact HB.out)⟩

end Go.Proofs.Ytigmadccchofiaa.QFnExactGapTo
