-- Written by a program of this session (wip/myprint.py); Lean checks it.
import Derived.Test.YtigmadccchofiaaQFnExactLargestx0
import Derived.Test.YtigmadccchofiaaQFnExactLargestx5
import Derived.Test.YtigmadccchofiaaQFnExactLargestx7
namespace Go.Proofs.Ytigmadccchofiaa.QFnExactLargest
open Go.RowKit Go.Proofs.YtigmadccchofiaaW.PrintWords Go.Proofs.YtigmadccchofiaaW.PrintLast Go.Proofs.YtigmadccchofiaaW.PrintMore
open Act (put)
open List (setIfInBounds_toArray set_cons_zero set_cons_succ)
attribute [local go_sem] max2_int min2_int max_two min_two max_three min_three max_four min_four   -- for this text's walks alone
set_option linter.unusedVariables false
set_option linter.unusedSimpArgs false

attribute [local go_sem] isSome_setCell
/-! ### spec_l2Left: function 108 -/
mutual
def spec_l2Left.l0 : Nat → List (S32) → List (S32) → Int → Bool → Int → Int → Int → Option ((List (S32)))
 | 0, _, _, _, _, _, _, _ => none
 | k + 1, x1, x5, x6, x171000, x171001, x171002, x171003 => if x6 < (x1.length : Int) then (if 0 ≤ x6 then ((spec_Within.f x171000 x171001 x171002 x171003 ((rd_T32 x1 x6).f0.f0) ((rd_T32 x1 x6).f0.f1) ((rd_T32 x1 x6).f0.f2) ((rd_T32 x1 x6).f1)).bind fun t175 => (if t175 = true then (some (([] : List (S32)))) else ((spec_Within.f ((rd_T32 x1 x6).f0.f0) ((rd_T32 x1 x6).f0.f1) ((rd_T32 x1 x6).f0.f2) ((rd_T32 x1 x6).f1) x171000 x171001 x171002 x171003).bind fun t180 => (if t180 = true then (if x5.length < 4398046511104 then (spec_l2Left.l0 k x1 (x5 ++ [(⟨(⟨(rd_T32 x1 x6).f0.f0, (rd_T32 x1 x6).f0.f1, (rd_T32 x1 x6).f0.f2⟩ : S26), (rd_T32 x1 x6).f1⟩ : S32)]) (wrap64 (x6 + 1)) x171000 x171001 x171002 x171003) else (none)) else (spec_l2Left.l0 k x1 x5 (wrap64 (x6 + 1)) x171000 x171001 x171002 x171003))))) else (none)) else (if (x5.length : Int) = 0 then (some (([(⟨(⟨x171000, x171001, x171002⟩ : S26), x171003⟩ : S32)] : List (S32)))) else ((spec_l2Halves.f x171000 x171001 x171002 x171003).bind fun bt188 => ((spec_l2Left.f k bt188.1 bt188.2.1 bt188.2.2.1 bt188.2.2.2.1 x5).bind fun t198 => ((spec_l2Left.f k bt188.2.2.2.2.1 bt188.2.2.2.2.2.1 bt188.2.2.2.2.2.2.1 bt188.2.2.2.2.2.2.2 x5).bind fun t201 => (if t198.length + t201.length < 4398046511104 then (some (t198 ++ t201)) else (none))))))
def spec_l2Left.f : Nat → Bool → Int → Int → Int → List (S32) → Option ((List (S32)))
 | 0, _, _, _, _, _ => none
 | k + 1, a0_0, a0_1, a0_2, a0_3, l1 => spec_l2Left.l0 k l1 (([] : List (S32))) 0 a0_0 a0_1 a0_2 a0_3
end
theorem spec_l2Left.mono_l : ∀ k, (∀ y0 y1 y2 y3 y4, LeO (spec_l2Left.f k y0 y1 y2 y3 y4) (spec_l2Left.f (k + 1) y0 y1 y2 y3 y4)) ∧ (∀ y0 y1 y2 y3 y4 y5 y6, LeO (spec_l2Left.l0 k y0 y1 y2 y3 y4 y5 y6) (spec_l2Left.l0 (k + 1) y0 y1 y2 y3 y4 y5 y6))
 | 0 => ⟨fun _ _ _ _ _ r h => by simp [spec_l2Left.f] at h, fun _ _ _ _ _ _ _ r h => by simp [spec_l2Left.l0] at h⟩
 | k + 1 => by
  obtain ⟨ih0, ih1⟩ := spec_l2Left.mono_l k
  refine ⟨?_, ?_⟩
  ·intro y0 y1 y2 y3 y4
   unfold spec_l2Left.f
   repeat' first
   | (with_reducible exact ih0 _ _ _ _ _)
   | (with_reducible exact ih1 _ _ _ _ _ _ _)
   | (with_reducible exact LeO.refl _)
   | (with_reducible exact LeO.none _)
   | (with_reducible refine LeO.ite ?_ ?_)
   | (with_reducible refine LeO.bind ?_ (fun _ => ?_))
   | exact ih0 _ _ _ _ _
   | exact ih1 _ _ _ _ _ _ _
   | exact LeO.none _
   | refine LeO.ite ?_ ?_
   | refine LeO.bind ?_ (fun _ => ?_)
  ·intro y0 y1 y2 y3 y4 y5 y6
   unfold spec_l2Left.l0
   repeat' first
   | (with_reducible exact ih0 _ _ _ _ _)
   | (with_reducible exact ih1 _ _ _ _ _ _ _)
   | (with_reducible exact LeO.refl _)
   | (with_reducible exact LeO.none _)
   | (with_reducible refine LeO.ite ?_ ?_)
   | (with_reducible refine LeO.bind ?_ (fun _ => ?_))
   | exact ih0 _ _ _ _ _
   | exact ih1 _ _ _ _ _ _ _
   | exact LeO.none _
   | refine LeO.ite ?_ ?_
   | refine LeO.bind ?_ (fun _ => ?_)
theorem spec_l2Left.mono : ∀ a0 a1 a2 a3 a4 k, LeO (spec_l2Left.f k a0 a1 a2 a3 a4) (spec_l2Left.f (k + 1) a0 a1 a2 a3 a4) := by
 intro a0 a1 a2 a3 a4 k
 obtain ⟨ih0, ih1⟩ := spec_l2Left.mono_l k
 exact ih0 a0 a1 a2 a3 a4
def spec_l2Left.T12 : Bool × List (List Nat × List Nat) := (true, [([], []), ([], []), ([0, 1], [0, 1]), ([], []), ([], []), ([3, 4, 2], [3, 4]), ([2, 5, 5], [2, 5]), ([6, 6, 0, 1, 2, 3, 4, 5, 6], [6])])
def spec_l2Left.B12 : List Nat := [0, 0, 3, 0, 0, 31, 63, 127]
theorem spec_l2Left.tab12 : rtab .any (opsOf Try.f108 12) = spec_l2Left.T12 := by kernel_rfl
theorem spec_l2Left.bits12 : waitsOk spec_l2Left.T12.2 spec_l2Left.B12 = true := by kernel_rfl
set_option maxHeartbeats 8000000 in
set_option maxRecDepth 100000 in
theorem spec_l2Left.calls (k : Nat) : ∀ (a0_0 : Bool) (a0_1 : Int) (a0_2 : Int) (a0_3 : Int) (A1 : Option Addr) (c1 : Nat) (l1 : List (S32)) (r : List (S32)) (w : World) (hr1 : Kd.C k32 w A1 l1.length l1) (hc1 : l1.length ≤ c1) (h : spec_l2Left.f k a0_0 a0_1 a0_2 a0_3 l1 = some r),
  Calls Try.prog 108 #[.agg #[.bool a0_0, .int .i64 a0_1, .int .i64 a0_2, .int .i64 a0_3], .slice A1 l1.length c1] w fun e w' => ∃ v0_ : Value, e = .returned (v0_) ∧ Kd.R k32 32 w' w.heap.size (fun _ => True) v0_ r ∧ Below w.heap.size w w' := by
 induction k using Nat.strongRecOn with
 | _ k ih =>
 intro a0_0 a0_1 a0_2 a0_3 A1 c1 l1 r w hr1 hc1 h
 cases k with
 | zero => exact absurd h (by simp [spec_l2Left.f])
 | succ k =>
 simp only [spec_l2Left.f] at h
 have hu32 := Try.underlying32
 have HR1 := Aside0.mk hr1
 have HC1 := Aside0.mk hc1
 clear hr1 hc1
 have HB := Aside0.mk (Below.refl w.heap.size w)
 have H : (spec_l2Left.l0 k l1 (([] : List (S32))) 0 a0_0 a0_1 a0_2 a0_3) = some r := h
 clear h
 obtain ⟨y171, hy171⟩ : ∃ y_ : List (S32), y_ = (([] : List (S32))) := ⟨_, rfl⟩
 replace H : (spec_l2Left.l0 k l1 y171 0 a0_0 a0_1 a0_2 a0_3) = some r := by first | (rw [hy171]; with_reducible exact H) | (have H2_ := (Option.bind_some _ _).symm.trans H; rw [hy171]; with_reducible exact H2_) | (have H2_ := (Option.bind_some _ _).symm.trans H; with_reducible exact H2_) | with_reducible exact H | (rw [hy171]; exact H) | exact H
 have Ny171 := Aside0.mk hy171
 clear hy171
 have H' := Aside0.mk H
 clear H
 go_enter Try.func108, Try.ntmps108
 go_wp2_with (first | ((with_reducible refine gate_dst (N := 2) rfl ?_); refine box_event ?hg (N := 2) ?hd (cs := #[.bool a0_0, .int .i64 a0_1, .int .i64 a0_2, .int .i64 a0_3]) (t := 32) ?hr ?_; (case hd => rfl); (case hg => rfl); (case hr => first | (go_simp; done) | (go_simp; rfl)); intro gb170 hg w3 hbox hb; have n0_ := Aside0.mk (below_step (hb_ HB.out) hb); have n1_ := Aside0.mk (hbox); have n2_ := bg_ hg (below_size (hb_ HB.out)); have n3_ := bg_ hg (below_size (hb_ HB.out)); clear HB; have HB := n0_; have BK170 := n1_; have GW170 := n2_; have GE170 := n3_; clear n0_ n1_ n2_ n3_; clear hb hbox hg) | ((with_reducible refine gate_dst (N := 9) rfl ?_); refine Kd.R_lit k32 _ 32 ?hg (N := 9) ?hd (xs := ([] : List (S32))) (inner := []) (ok := fun _ => True) (okp := fun _ => True) ?hr ?hp (fun _ hk => hk) trivial (Below.refl _ _) (Nat.le_refl _) (by simp) ?_; (case hd => rfl); (case hg => rfl); (case hr => first | (go_simp; done) | (go_simp; rfl)); (case hp => exact (Reps.none _ _)); intro v172 w4 ho5 hb hg_ hnew_; clear hg_ hnew_; (first | rw [← Ny171.out] at ho5 | (simp only [Int.reduceToNat] at ho5; rw [← Ny171.out] at ho5)); have n0_ := Aside0.mk (Kd.R_lower (Kd.R_newB ho5 (g := gb170) (o := .cells #[.bool a0_0, .int .i64 a0_1, .int .i64 a0_2, .int .i64 a0_3] 32 (0, 0)) (bk_ BK170.out)) (below_size (hc_ HB.out GE170.out))); have n1_ := Aside0.mk (blk_below (bk_ BK170.out) hb); have n2_ := Aside0.mk (below_step (hc_ HB.out GE170.out) hb); clear BK170; clear HB; have HO173 := n0_; have BK170 := n1_; have HB := n2_; clear n0_ n1_ n2_; clear hb ho5))
 go_loopg [5, 6] k (fun kq v5 v6 w' => ∃ (x5_1 : List (S32)) (x6_1 : Int), v6 = .int .i64 x6_1 ∧ Aside0 (spec_l2Left.l0 kq l1 x5_1 x6_1 a0_0 a0_1 a0_2 a0_3 = some r) ∧ Aside0 (kq ≤ k) ∧ Aside0 (Kd.R k32 32 w' w.heap.size (fun k_ => k_ ≠ gb170) v5 x5_1) ∧ Aside0 (w'.heap[gb170]? = some (.cells #[.bool a0_0, .int .i64 a0_1, .int .i64 a0_2, .int .i64 a0_3] 32 (0, 0))) ∧ Aside0 (Below w.heap.size w w'))
 case atStart => exact ⟨(y171), (0), (by first | rfl | (simp; done) | (simp [*]; done)), H', ⟨Nat.le_refl _⟩, ⟨by (with_reducible repeat (first | apply Kd.R_alloc | apply Kd.R_drewN | apply Kd.R_drew)); exact Kd.R_mono HO173.out (fun _ hk => hk.2)⟩, ⟨by refine bk_ ?_; exact BK170.out⟩, ⟨hc_ HB.out GE170.out⟩⟩
 case round =>
  clear H'
  try clear c1
  try clear p2
  obtain ⟨x5_1, x6_1, rfl, HA, HK1, HO_5, BK170, HB⟩ := hrel
  cases gk with
  | zero => exact absurd HA.out (by simp [spec_l2Left.l0])
  | succ k1 =>
   have H := HA.out
   clear HA
   simp only [spec_l2Left.l0] at H
   by_cases c6 : x6_1 < (l1.length : Int)
   ·rw [if_pos c6] at H
    have c6b0 : decide (x6_1 < (l1.length : Int)) = true := decide_eq_true c6
    clear c6
    by_cases c7 : 0 ≤ x6_1
    ·rw [if_pos c7] at H
     have c7b0 : decide (0 ≤ x6_1) = true := decide_eq_true c7
     clear c7
     replace H := Option.bind_eq_some_iff.mp H
     obtain ⟨t175, A80, H⟩ := H
     replace H : (if t175 = true then (some (([] : List (S32)))) else ((spec_Within.f ((rd_T32 l1 x6_1).f0.f0) ((rd_T32 l1 x6_1).f0.f1) ((rd_T32 l1 x6_1).f0.f2) ((rd_T32 l1 x6_1).f1) a0_0 a0_1 a0_2 a0_3).bind fun t180 => (if t180 = true then (if x5_1.length < 4398046511104 then (spec_l2Left.l0 k1 l1 (x5_1 ++ [(⟨(⟨(rd_T32 l1 x6_1).f0.f0, (rd_T32 l1 x6_1).f0.f1, (rd_T32 l1 x6_1).f0.f2⟩ : S26), (rd_T32 l1 x6_1).f1⟩ : S32)]) (wrap64 (x6_1 + 1)) a0_0 a0_1 a0_2 a0_3) else (none)) else (spec_l2Left.l0 k1 l1 x5_1 (wrap64 (x6_1 + 1)) a0_0 a0_1 a0_2 a0_3)))) = some r := H
     have A8 := Aside0.mk A80
     clear A80
     by_cases c9 : t175 = true
     ·subst c9
      have H1 : (some (([] : List (S32)))) = some r := by rw [if_pos rfl] at H; exact H
      clear H
      have H := H1
      clear H1
      obtain ⟨y176, hy176⟩ : ∃ y_ : List (S32), y_ = (([] : List (S32))) := ⟨_, rfl⟩
      replace H : (some y176) = some r := by first | (rw [hy176]; with_reducible exact H) | (have H2_ := (Option.bind_some _ _).symm.trans H; rw [hy176]; with_reducible exact H2_) | (have H2_ := (Option.bind_some _ _).symm.trans H; with_reducible exact H2_) | with_reducible exact H | (rw [hy176]; exact H) | exact H
      have Ny176 := Aside0.mk hy176
      clear hy176
      obtain rfl := Option.some.inj H
      try go_wp2
      have n0_ := Aside0.mk (Kd.R_drew HO_5.out)
      have n1_ := Aside0.mk (blk_drew BK170.out)
      have n2_ := Aside0.mk (below_drew1 HB.out)
      clear HO_5
      clear BK170
      clear HB
      have HO_5 := n0_
      have BK170 := n1_
      have HB := n2_
      clear n0_ n1_ n2_
      have p174 : 0 ≤ (x6_1 : Int) := of_decide_eq_true pa_
      have q174 : x6_1 < (l1.length : Int) := of_decide_eq_true pa_
      obtain ⟨ad174, e174, hx174_0, hx174_1, hx174_2, hx174_3⟩ := at_T32 HR1.out x6_1 p174 q174
      have hw174_3 := hx174_3
      have hw174_2 := hx174_2
      have hw174_1 := hx174_1
      have hw174_0 := hx174_0
      cases e174
      replace hx174_0 := (HB.out.cell (World.block_lt_of_cell? w _ hx174_0)).trans hx174_0
      replace hx174_1 := (HB.out.cell (World.block_lt_of_cell? w _ hx174_1)).trans hx174_1
      replace hx174_2 := (HB.out.cell (World.block_lt_of_cell? w _ hx174_2)).trans hx174_2
      replace hx174_3 := (HB.out.cell (World.block_lt_of_cell? w _ hx174_3)).trans hx174_3
      replace p174 := eq_true p174
      replace q174 := eq_true q174
      refine start_ (n := 6) (S := fun w' => w'.cell? ⟨gb170, 0, none⟩ = some (.bool a0_0) ∧ w'.cell? ⟨gb170, 1, none⟩ = some (.int .i64 a0_1) ∧ w'.cell? ⟨gb170, 2, none⟩ = some (.int .i64 a0_2) ∧ w'.cell? ⟨gb170, 3, none⟩ = some (.int .i64 a0_3) ∧ w'.cell? (ad174.add ((x6_1).toNat * 4)) = some (.bool ((rd_T32 l1 x6_1).f0.f0)) ∧ w'.cell? ⟨(ad174.add ((x6_1).toNat * 4)).block, (ad174.add ((x6_1).toNat * 4)).off + 1, none⟩ = some (.int .i64 ((rd_T32 l1 x6_1).f0.f1)) ∧ w'.cell? ⟨(ad174.add ((x6_1).toNat * 4)).block, (ad174.add ((x6_1).toNat * 4)).off + 2, none⟩ = some (.int .i64 ((rd_T32 l1 x6_1).f0.f2)) ∧ w'.cell? ⟨(ad174.add ((x6_1).toNat * 4)).block, (ad174.add ((x6_1).toNat * 4)).off + 3, none⟩ = some (.int .i64 ((rd_T32 l1 x6_1).f1))) (ds := []) #[false, false, false, false, false, false] (by kernel_rfl) rfl rfl ⟨(blk_cell BK170.out 0).trans rfl, (blk_cell BK170.out 1).trans rfl, (blk_cell BK170.out 2).trans rfl, (blk_cell BK170.out 3).trans rfl, ((HB.out.cell (World.block_lt_of_cell? w _ hw174_0)).trans hw174_0), ((HB.out.cell (World.block_lt_of_cell? w _ hw174_1)).trans hw174_1), ((HB.out.cell (World.block_lt_of_cell? w _ hw174_2)).trans hw174_2), ((HB.out.cell (World.block_lt_of_cell? w _ hw174_3)).trans hw174_3)⟩ (fun hHeld => ?_)
      generalize wr.drew = w10 at HO_5 BK170 HB hx174_0 hx174_1 hx174_2 hx174_3 hHeld ⊢
      refine pure_ (i := 1) (N := some 17) (v := ?_) (a' := ?_) #[false, true, false, false, false, false] rfl rfl (by kernel_rfl) (fun _ _ _ h => h) (Or.inl ⟨by rfl, ?_⟩) ?_ ?_
      rotate_left
      ·intro w'
       go_simp
       with_reducible rfl
      rotate_left
      ·simp only [put, setIfInBounds_toArray, set_cons_zero, set_cons_succ, i64_w, i32_w]
       rfl
      refine pure_ (i := 2) (N := some 18) (v := ?_) (a' := ?_) #[false, true, true, false, false, false] rfl rfl (by kernel_rfl) (fun _ _ _ h => h) (Or.inl ⟨by rfl, ?_⟩) ?_ ?_
      rotate_left
      ·intro w'
       go_simp
       with_reducible rfl
      rotate_left
      ·simp only [put, setIfInBounds_toArray, set_cons_zero, set_cons_succ, i64_w, i32_w]
       rfl
      refine pure_ (i := 3) (N := some 19) (v := ?_) (a' := ?_) #[false, true, true, true, false, false] rfl rfl (by kernel_rfl) (fun _ _ _ h => h) (Or.inl ⟨by rfl, ?_⟩) ?_ ?_
      rotate_left
      ·intro w'
       go_simp
       with_reducible rfl
      rotate_left
      ·simp only [put, setIfInBounds_toArray, set_cons_zero, set_cons_succ, i64_w, i32_w]
       rfl
      refine take_ (i := 0) (N := some 16) (v := ?_) (a' := ?_) #[true, true, true, true, false, false] rfl rfl (by kernel_rfl) (fun _ _ _ h => h) (Or.inl ⟨by rfl, ?_⟩) hHeld ?_ ?_
      rotate_left
      ·rintro w' ⟨s0, s1, s2, s3, s4, s5, s6, s7⟩
       go_simp
       with_reducible rfl
      rotate_left
      ·simp only [put, setIfInBounds_toArray, set_cons_zero, set_cons_succ, i64_w, i32_w]
       rfl
      refine take_ (i := 4) (N := some 20) (v := ?_) (a' := ?_) #[true, true, true, true, true, false] rfl rfl (by kernel_rfl) (fun _ _ _ h => h) (Or.inl ⟨by rfl, ?_⟩) hHeld ?_ ?_
      rotate_left
      ·rintro w' ⟨s0, s1, s2, s3, s4, s5, s6, s7⟩
       go_simp
       with_reducible rfl
      rotate_left
      ·simp only [put, setIfInBounds_toArray, set_cons_zero, set_cons_succ, i64_w, i32_w]
       rfl
      refine one_ (i := 5) (N := some 21) #[true, true, true, true, true, true] rfl rfl (by kernel_rfl) (by decide) (fun K hK => ?_)
      refine goes_ Try.func128 (by kernel_rfl) rfl #[.agg #[.bool a0_0, .int .i64 a0_1, .int .i64 a0_2, .int .i64 a0_3], .agg #[.bool ((rd_T32 l1 x6_1).f0.f0), .int .i64 ((rd_T32 l1 x6_1).f0.f1), .int .i64 ((rd_T32 l1 x6_1).f0.f2), .int .i64 ((rd_T32 l1 x6_1).f1)]] (by rfl) rfl rfl al_ ?_
      with_reducible refine (spec_Within.calls a0_0 a0_1 a0_2 a0_3 ((rd_T32 l1 x6_1).f0.f0) ((rd_T32 l1 x6_1).f0.f1) ((rd_T32 l1 x6_1).f0.f2) ((rd_T32 l1 x6_1).f1) true _ A8.out).mono ?_
      rintro e w11 ⟨rfl, hb⟩
      refine ⟨_, rfl, ?_⟩
      have n0_ := Aside0.mk (Kd.R_below (by (with_reducible repeat (first | apply Kd.R_alloc | apply Kd.R_drewN | apply Kd.R_drew)); exact HO_5.out) hb)
      have n1_ := Aside0.mk (blk_below (bk_ BK170.out) hb)
      have n2_ := Aside0.mk (below_step (hc_ HB.out GE170.out) hb)
      clear HO_5
      clear BK170
      clear HB
      have HO_5 := n0_
      have BK170 := n1_
      have HB := n2_
      clear n0_ n1_ n2_
      (try clear hb)
      (try clear hb2)
      (try clear hk)
      (try clear hi)
      refine hK.out _ _ ⟨(blk_cell BK170.out 0).trans rfl, (blk_cell BK170.out 1).trans rfl, (blk_cell BK170.out 2).trans rfl, (blk_cell BK170.out 3).trans rfl, ((HB.out.cell (World.block_lt_of_cell? w _ hw174_0)).trans hw174_0), ((HB.out.cell (World.block_lt_of_cell? w _ hw174_1)).trans hw174_1), ((HB.out.cell (World.block_lt_of_cell? w _ hw174_2)).trans hw174_2), ((HB.out.cell (World.block_lt_of_cell? w _ hw174_3)).trans hw174_3)⟩ (fun hHeld => ?_)
      clear hK K
      refine norm_ (a' := ?_) ?_ ?_
      rotate_left
      ·show Act.put _ (some 21) _ = _
       simp only [put, setIfInBounds_toArray, set_cons_zero, set_cons_succ, i64_w, i32_w]
       rfl
      refine done_ (by kernel_rfl) ?_
      try go_wp2_with (first | ((with_reducible refine gate_dst (N := 22) rfl ?_); refine Kd.R_lit k32 _ 32 ?hg (N := 22) ?hd (xs := ([] : List (S32))) (inner := []) (ok := fun _ => True) (okp := fun _ => True) ?hr ?hp (fun _ hk => hk) trivial (Below.refl _ _) (Nat.le_refl _) (by simp) ?_; (case hd => rfl); (case hg => rfl); (case hr => first | (go_simp; done) | (go_simp; rfl)); (case hp => exact (Reps.none _ _)); intro v177 w12 ho13 hb hg_ hnew_; clear hg_ hnew_; (first | rw [← Ny176.out] at ho13 | (simp only [Int.reduceToNat] at ho13; rw [← Ny176.out] at ho13)); have n0_ := Aside0.mk (Kd.R_elder' (by (with_reducible repeat (first | apply Kd.R_alloc | apply Kd.R_drewN | apply Kd.R_drew)); exact HO_5.out) (Kd.R_base ho13) hb); have n1_ := Aside0.mk (Kd.R_lower (Kd.R_newB (Kd.R_new' ho13 (Kd.R_lt (by (with_reducible repeat (first | apply Kd.R_alloc | apply Kd.R_drewN | apply Kd.R_drew)); exact HO_5.out))) (g := gb170) (o := .cells #[.bool a0_0, .int .i64 a0_1, .int .i64 a0_2, .int .i64 a0_3] 32 (0, 0)) (bk_ BK170.out)) (below_size (hc_ HB.out GE170.out))); have n2_ := Aside0.mk (blk_below (bk_ BK170.out) hb); have n3_ := Aside0.mk (below_step (hc_ HB.out GE170.out) hb); clear HO_5; clear BK170; clear HB; have HO_5 := n0_; have HO178 := n1_; have BK170 := n2_; have HB := n3_; clear n0_ n1_ n2_ n3_; clear hb ho13))
      go_ret
      exact ⟨_, by first | rfl | (simp [errW_none, errW_some] <;> rfl) | (simp [*, errW_none, errW_some] <;> rfl), by (with_reducible repeat (first | apply Kd.R_alloc | apply Kd.R_drewN | apply Kd.R_drew)); exact Kd.R_mono HO178.out (fun _ hk => trivial), hc_ HB.out GE170.out⟩
     ·replace c9 := Bool.eq_false_iff.mpr c9
      subst c9
      have H1 : ((spec_Within.f ((rd_T32 l1 x6_1).f0.f0) ((rd_T32 l1 x6_1).f0.f1) ((rd_T32 l1 x6_1).f0.f2) ((rd_T32 l1 x6_1).f1) a0_0 a0_1 a0_2 a0_3).bind fun t180 => (if t180 = true then (if x5_1.length < 4398046511104 then (spec_l2Left.l0 k1 l1 (x5_1 ++ [(⟨(⟨(rd_T32 l1 x6_1).f0.f0, (rd_T32 l1 x6_1).f0.f1, (rd_T32 l1 x6_1).f0.f2⟩ : S26), (rd_T32 l1 x6_1).f1⟩ : S32)]) (wrap64 (x6_1 + 1)) a0_0 a0_1 a0_2 a0_3) else (none)) else (spec_l2Left.l0 k1 l1 x5_1 (wrap64 (x6_1 + 1)) a0_0 a0_1 a0_2 a0_3))) = some r := by rw [if_neg (show ¬ (false = true) by decide)] at H; exact H
      clear H
      have H := H1
      clear H1
      replace H := Option.bind_eq_some_iff.mp H
      obtain ⟨t180, A140, H⟩ := H
      replace H : (if t180 = true then (if x5_1.length < 4398046511104 then (spec_l2Left.l0 k1 l1 (x5_1 ++ [(⟨(⟨(rd_T32 l1 x6_1).f0.f0, (rd_T32 l1 x6_1).f0.f1, (rd_T32 l1 x6_1).f0.f2⟩ : S26), (rd_T32 l1 x6_1).f1⟩ : S32)]) (wrap64 (x6_1 + 1)) a0_0 a0_1 a0_2 a0_3) else (none)) else (spec_l2Left.l0 k1 l1 x5_1 (wrap64 (x6_1 + 1)) a0_0 a0_1 a0_2 a0_3)) = some r := H
      have A14 := Aside0.mk A140
      clear A140
      by_cases c15 : t180 = true
      ·subst c15
       have H1 : (if x5_1.length < 4398046511104 then (spec_l2Left.l0 k1 l1 (x5_1 ++ [(⟨(⟨(rd_T32 l1 x6_1).f0.f0, (rd_T32 l1 x6_1).f0.f1, (rd_T32 l1 x6_1).f0.f2⟩ : S26), (rd_T32 l1 x6_1).f1⟩ : S32)]) (wrap64 (x6_1 + 1)) a0_0 a0_1 a0_2 a0_3) else (none)) = some r := by rw [if_pos rfl] at H; exact H
       clear H
       have H := H1
       clear H1
       by_cases c16 : x5_1.length < 4398046511104
       ·rw [if_pos c16] at H
        have LMc16 := Aside0.mk c16
        clear c16
        obtain ⟨y182, hy182⟩ : ∃ y_ : List (S32), y_ = (x5_1 ++ [(⟨(⟨(rd_T32 l1 x6_1).f0.f0, (rd_T32 l1 x6_1).f0.f1, (rd_T32 l1 x6_1).f0.f2⟩ : S26), (rd_T32 l1 x6_1).f1⟩ : S32)]) := ⟨_, rfl⟩
        replace H : (spec_l2Left.l0 k1 l1 y182 (wrap64 (x6_1 + 1)) a0_0 a0_1 a0_2 a0_3) = some r := by first | (rw [hy182]; with_reducible exact H) | (have H2_ := (Option.bind_some _ _).symm.trans H; rw [hy182]; with_reducible exact H2_) | (have H2_ := (Option.bind_some _ _).symm.trans H; with_reducible exact H2_) | with_reducible exact H | (rw [hy182]; exact H) | exact H
        have Ny182 := Aside0.mk hy182
        clear hy182
        have H' := Aside0.mk H
        clear H
        try go_wp2
        have n0_ := Aside0.mk (Kd.R_drew HO_5.out)
        have n1_ := Aside0.mk (blk_drew BK170.out)
        have n2_ := Aside0.mk (below_drew1 HB.out)
        clear HO_5
        clear BK170
        clear HB
        have HO_5 := n0_
        have BK170 := n1_
        have HB := n2_
        clear n0_ n1_ n2_
        have p174 : 0 ≤ (x6_1 : Int) := of_decide_eq_true pa_
        have q174 : x6_1 < (l1.length : Int) := of_decide_eq_true pa_
        obtain ⟨ad174, e174, hx174_0, hx174_1, hx174_2, hx174_3⟩ := at_T32 HR1.out x6_1 p174 q174
        have hw174_3 := hx174_3
        have hw174_2 := hx174_2
        have hw174_1 := hx174_1
        have hw174_0 := hx174_0
        cases e174
        replace hx174_0 := (HB.out.cell (World.block_lt_of_cell? w _ hx174_0)).trans hx174_0
        replace hx174_1 := (HB.out.cell (World.block_lt_of_cell? w _ hx174_1)).trans hx174_1
        replace hx174_2 := (HB.out.cell (World.block_lt_of_cell? w _ hx174_2)).trans hx174_2
        replace hx174_3 := (HB.out.cell (World.block_lt_of_cell? w _ hx174_3)).trans hx174_3
        replace p174 := eq_true p174
        replace q174 := eq_true q174
        refine start_ (n := 6) (S := fun w' => w'.cell? ⟨gb170, 0, none⟩ = some (.bool a0_0) ∧ w'.cell? ⟨gb170, 1, none⟩ = some (.int .i64 a0_1) ∧ w'.cell? ⟨gb170, 2, none⟩ = some (.int .i64 a0_2) ∧ w'.cell? ⟨gb170, 3, none⟩ = some (.int .i64 a0_3) ∧ w'.cell? (ad174.add ((x6_1).toNat * 4)) = some (.bool ((rd_T32 l1 x6_1).f0.f0)) ∧ w'.cell? ⟨(ad174.add ((x6_1).toNat * 4)).block, (ad174.add ((x6_1).toNat * 4)).off + 1, none⟩ = some (.int .i64 ((rd_T32 l1 x6_1).f0.f1)) ∧ w'.cell? ⟨(ad174.add ((x6_1).toNat * 4)).block, (ad174.add ((x6_1).toNat * 4)).off + 2, none⟩ = some (.int .i64 ((rd_T32 l1 x6_1).f0.f2)) ∧ w'.cell? ⟨(ad174.add ((x6_1).toNat * 4)).block, (ad174.add ((x6_1).toNat * 4)).off + 3, none⟩ = some (.int .i64 ((rd_T32 l1 x6_1).f1))) (ds := []) #[false, false, false, false, false, false] (by kernel_rfl) rfl rfl ⟨(blk_cell BK170.out 0).trans rfl, (blk_cell BK170.out 1).trans rfl, (blk_cell BK170.out 2).trans rfl, (blk_cell BK170.out 3).trans rfl, ((HB.out.cell (World.block_lt_of_cell? w _ hw174_0)).trans hw174_0), ((HB.out.cell (World.block_lt_of_cell? w _ hw174_1)).trans hw174_1), ((HB.out.cell (World.block_lt_of_cell? w _ hw174_2)).trans hw174_2), ((HB.out.cell (World.block_lt_of_cell? w _ hw174_3)).trans hw174_3)⟩ (fun hHeld => ?_)
        generalize wr.drew = w17 at HO_5 BK170 HB hx174_0 hx174_1 hx174_2 hx174_3 hHeld ⊢
        refine pure_ (i := 1) (N := some 17) (v := ?_) (a' := ?_) #[false, true, false, false, false, false] rfl rfl (by kernel_rfl) (fun _ _ _ h => h) (Or.inl ⟨by rfl, ?_⟩) ?_ ?_
        rotate_left
        ·intro w'
         go_simp
         with_reducible rfl
        rotate_left
        ·simp only [put, setIfInBounds_toArray, set_cons_zero, set_cons_succ, i64_w, i32_w]
         rfl
        refine pure_ (i := 2) (N := some 18) (v := ?_) (a' := ?_) #[false, true, true, false, false, false] rfl rfl (by kernel_rfl) (fun _ _ _ h => h) (Or.inl ⟨by rfl, ?_⟩) ?_ ?_
        rotate_left
        ·intro w'
         go_simp
         with_reducible rfl
        rotate_left
        ·simp only [put, setIfInBounds_toArray, set_cons_zero, set_cons_succ, i64_w, i32_w]
         rfl
        refine pure_ (i := 3) (N := some 19) (v := ?_) (a' := ?_) #[false, true, true, true, false, false] rfl rfl (by kernel_rfl) (fun _ _ _ h => h) (Or.inl ⟨by rfl, ?_⟩) ?_ ?_
        rotate_left
        ·intro w'
         go_simp
         with_reducible rfl
        rotate_left
        ·simp only [put, setIfInBounds_toArray, set_cons_zero, set_cons_succ, i64_w, i32_w]
         rfl
        refine take_ (i := 0) (N := some 16) (v := ?_) (a' := ?_) #[true, true, true, true, false, false] rfl rfl (by kernel_rfl) (fun _ _ _ h => h) (Or.inl ⟨by rfl, ?_⟩) hHeld ?_ ?_
        rotate_left
        ·rintro w' ⟨s0, s1, s2, s3, s4, s5, s6, s7⟩
         go_simp
         with_reducible rfl
        rotate_left
        ·simp only [put, setIfInBounds_toArray, set_cons_zero, set_cons_succ, i64_w, i32_w]
         rfl
        refine take_ (i := 4) (N := some 20) (v := ?_) (a' := ?_) #[true, true, true, true, true, false] rfl rfl (by kernel_rfl) (fun _ _ _ h => h) (Or.inl ⟨by rfl, ?_⟩) hHeld ?_ ?_
        rotate_left
        ·rintro w' ⟨s0, s1, s2, s3, s4, s5, s6, s7⟩
         go_simp
         with_reducible rfl
        rotate_left
        ·simp only [put, setIfInBounds_toArray, set_cons_zero, set_cons_succ, i64_w, i32_w]
         rfl
        refine one_ (i := 5) (N := some 21) #[true, true, true, true, true, true] rfl rfl (by kernel_rfl) (by decide) (fun K hK => ?_)
        refine goes_ Try.func128 (by kernel_rfl) rfl #[.agg #[.bool a0_0, .int .i64 a0_1, .int .i64 a0_2, .int .i64 a0_3], .agg #[.bool ((rd_T32 l1 x6_1).f0.f0), .int .i64 ((rd_T32 l1 x6_1).f0.f1), .int .i64 ((rd_T32 l1 x6_1).f0.f2), .int .i64 ((rd_T32 l1 x6_1).f1)]] (by rfl) rfl rfl al_ ?_
        with_reducible refine (spec_Within.calls a0_0 a0_1 a0_2 a0_3 ((rd_T32 l1 x6_1).f0.f0) ((rd_T32 l1 x6_1).f0.f1) ((rd_T32 l1 x6_1).f0.f2) ((rd_T32 l1 x6_1).f1) false _ A8.out).mono ?_
        rintro e w18 ⟨rfl, hb⟩
        refine ⟨_, rfl, ?_⟩
        have n0_ := Aside0.mk (Kd.R_below (by (with_reducible repeat (first | apply Kd.R_alloc | apply Kd.R_drewN | apply Kd.R_drew)); exact HO_5.out) hb)
        have n1_ := Aside0.mk (blk_below (bk_ BK170.out) hb)
        have n2_ := Aside0.mk (below_step (hc_ HB.out GE170.out) hb)
        clear HO_5
        clear BK170
        clear HB
        have HO_5 := n0_
        have BK170 := n1_
        have HB := n2_
        clear n0_ n1_ n2_
        (try clear hb)
        (try clear hb2)
        (try clear hk)
        (try clear hi)
        refine hK.out _ _ ⟨(blk_cell BK170.out 0).trans rfl, (blk_cell BK170.out 1).trans rfl, (blk_cell BK170.out 2).trans rfl, (blk_cell BK170.out 3).trans rfl, ((HB.out.cell (World.block_lt_of_cell? w _ hw174_0)).trans hw174_0), ((HB.out.cell (World.block_lt_of_cell? w _ hw174_1)).trans hw174_1), ((HB.out.cell (World.block_lt_of_cell? w _ hw174_2)).trans hw174_2), ((HB.out.cell (World.block_lt_of_cell? w _ hw174_3)).trans hw174_3)⟩ (fun hHeld => ?_)
        clear hK K
        refine norm_ (a' := ?_) ?_ ?_
        rotate_left
        ·show Act.put _ (some 21) _ = _
         simp only [put, setIfInBounds_toArray, set_cons_zero, set_cons_succ, i64_w, i32_w]
         rfl
        refine done_ (by kernel_rfl) ?_
        try go_wp2
        have n0_ := Aside0.mk (Kd.R_drew HO_5.out)
        have n1_ := Aside0.mk (blk_drew BK170.out)
        have n2_ := Aside0.mk (below_drew1 HB.out)
        clear HO_5
        clear BK170
        clear HB
        have HO_5 := n0_
        have BK170 := n1_
        have HB := n2_
        clear n0_ n1_ n2_
        have p179 : 0 ≤ (x6_1 : Int) := of_decide_eq_true pa_
        have q179 : x6_1 < (l1.length : Int) := of_decide_eq_true pa_
        obtain ⟨ad179, e179, hx179_0, hx179_1, hx179_2, hx179_3⟩ := at_T32 HR1.out x6_1 p179 q179
        have hw179_3 := hx179_3
        have hw179_2 := hx179_2
        have hw179_1 := hx179_1
        have hw179_0 := hx179_0
        obtain rfl : ad174 = ad179 := (by injection e179)
        replace hx179_0 := (HB.out.cell (World.block_lt_of_cell? w _ hx179_0)).trans hx179_0
        replace hx179_1 := (HB.out.cell (World.block_lt_of_cell? w _ hx179_1)).trans hx179_1
        replace hx179_2 := (HB.out.cell (World.block_lt_of_cell? w _ hx179_2)).trans hx179_2
        replace hx179_3 := (HB.out.cell (World.block_lt_of_cell? w _ hx179_3)).trans hx179_3
        replace p179 := eq_true p179
        replace q179 := eq_true q179
        refine start_ (n := 6) (S := fun w' => w'.cell? ⟨gb170, 0, none⟩ = some (.bool a0_0) ∧ w'.cell? ⟨gb170, 1, none⟩ = some (.int .i64 a0_1) ∧ w'.cell? ⟨gb170, 2, none⟩ = some (.int .i64 a0_2) ∧ w'.cell? ⟨gb170, 3, none⟩ = some (.int .i64 a0_3) ∧ w'.cell? (ad174.add ((x6_1).toNat * 4)) = some (.bool ((rd_T32 l1 x6_1).f0.f0)) ∧ w'.cell? ⟨(ad174.add ((x6_1).toNat * 4)).block, (ad174.add ((x6_1).toNat * 4)).off + 1, none⟩ = some (.int .i64 ((rd_T32 l1 x6_1).f0.f1)) ∧ w'.cell? ⟨(ad174.add ((x6_1).toNat * 4)).block, (ad174.add ((x6_1).toNat * 4)).off + 2, none⟩ = some (.int .i64 ((rd_T32 l1 x6_1).f0.f2)) ∧ w'.cell? ⟨(ad174.add ((x6_1).toNat * 4)).block, (ad174.add ((x6_1).toNat * 4)).off + 3, none⟩ = some (.int .i64 ((rd_T32 l1 x6_1).f1))) (ds := []) #[false, false, false, false, false, false] (by kernel_rfl) rfl rfl ⟨(blk_cell BK170.out 0).trans rfl, (blk_cell BK170.out 1).trans rfl, (blk_cell BK170.out 2).trans rfl, (blk_cell BK170.out 3).trans rfl, ((HB.out.cell (World.block_lt_of_cell? w _ hw179_0)).trans hw179_0), ((HB.out.cell (World.block_lt_of_cell? w _ hw179_1)).trans hw179_1), ((HB.out.cell (World.block_lt_of_cell? w _ hw179_2)).trans hw179_2), ((HB.out.cell (World.block_lt_of_cell? w _ hw179_3)).trans hw179_3)⟩ (fun hHeld => ?_)
        generalize w18.drew = w19 at HO_5 BK170 HB hx179_0 hx179_1 hx179_2 hx179_3 hHeld ⊢
        refine pure_ (i := 0) (N := some 23) (v := ?_) (a' := ?_) #[true, false, false, false, false, false] rfl rfl (by kernel_rfl) (fun _ _ _ h => h) (Or.inl ⟨by rfl, ?_⟩) ?_ ?_
        rotate_left
        ·intro w'
         go_simp
         with_reducible rfl
        rotate_left
        ·simp only [put, setIfInBounds_toArray, set_cons_zero, set_cons_succ, i64_w, i32_w]
         rfl
        refine pure_ (i := 1) (N := some 24) (v := ?_) (a' := ?_) #[true, true, false, false, false, false] rfl rfl (by kernel_rfl) (fun _ _ _ h => h) (Or.inl ⟨by rfl, ?_⟩) ?_ ?_
        rotate_left
        ·intro w'
         go_simp
         with_reducible rfl
        rotate_left
        ·simp only [put, setIfInBounds_toArray, set_cons_zero, set_cons_succ, i64_w, i32_w]
         rfl
        refine pure_ (i := 2) (N := some 25) (v := ?_) (a' := ?_) #[true, true, true, false, false, false] rfl rfl (by kernel_rfl) (fun _ _ _ h => h) (Or.inl ⟨by rfl, ?_⟩) ?_ ?_
        rotate_left
        ·intro w'
         go_simp
         with_reducible rfl
        rotate_left
        ·simp only [put, setIfInBounds_toArray, set_cons_zero, set_cons_succ, i64_w, i32_w]
         rfl
        refine take_ (i := 3) (N := some 26) (v := ?_) (a' := ?_) #[true, true, true, true, false, false] rfl rfl (by kernel_rfl) (fun _ _ _ h => h) (Or.inl ⟨by rfl, ?_⟩) hHeld ?_ ?_
        rotate_left
        ·rintro w' ⟨s0, s1, s2, s3, s4, s5, s6, s7⟩
         go_simp
         with_reducible rfl
        rotate_left
        ·simp only [put, setIfInBounds_toArray, set_cons_zero, set_cons_succ, i64_w, i32_w]
         rfl
        refine take_ (i := 4) (N := some 27) (v := ?_) (a' := ?_) #[true, true, true, true, true, false] rfl rfl (by kernel_rfl) (fun _ _ _ h => h) (Or.inl ⟨by rfl, ?_⟩) hHeld ?_ ?_
        rotate_left
        ·rintro w' ⟨s0, s1, s2, s3, s4, s5, s6, s7⟩
         go_simp
         with_reducible rfl
        rotate_left
        ·simp only [put, setIfInBounds_toArray, set_cons_zero, set_cons_succ, i64_w, i32_w]
         rfl
        refine one_ (i := 5) (N := some 28) #[true, true, true, true, true, true] rfl rfl (by kernel_rfl) (by decide) (fun K hK => ?_)
        refine goes_ Try.func128 (by kernel_rfl) rfl #[.agg #[.bool ((rd_T32 l1 x6_1).f0.f0), .int .i64 ((rd_T32 l1 x6_1).f0.f1), .int .i64 ((rd_T32 l1 x6_1).f0.f2), .int .i64 ((rd_T32 l1 x6_1).f1)], .agg #[.bool a0_0, .int .i64 a0_1, .int .i64 a0_2, .int .i64 a0_3]] (by rfl) rfl rfl al_ ?_
        with_reducible refine (spec_Within.calls ((rd_T32 l1 x6_1).f0.f0) ((rd_T32 l1 x6_1).f0.f1) ((rd_T32 l1 x6_1).f0.f2) ((rd_T32 l1 x6_1).f1) a0_0 a0_1 a0_2 a0_3 true _ A14.out).mono ?_
        rintro e w20 ⟨rfl, hb⟩
        refine ⟨_, rfl, ?_⟩
        have n0_ := Aside0.mk (Kd.R_below (by (with_reducible repeat (first | apply Kd.R_alloc | apply Kd.R_drewN | apply Kd.R_drew)); exact HO_5.out) hb)
        have n1_ := Aside0.mk (blk_below (bk_ BK170.out) hb)
        have n2_ := Aside0.mk (below_step (hc_ HB.out GE170.out) hb)
        clear HO_5
        clear BK170
        clear HB
        have HO_5 := n0_
        have BK170 := n1_
        have HB := n2_
        clear n0_ n1_ n2_
        (try clear hb)
        (try clear hb2)
        (try clear hk)
        (try clear hi)
        refine hK.out _ _ ⟨(blk_cell BK170.out 0).trans rfl, (blk_cell BK170.out 1).trans rfl, (blk_cell BK170.out 2).trans rfl, (blk_cell BK170.out 3).trans rfl, ((HB.out.cell (World.block_lt_of_cell? w _ hw179_0)).trans hw179_0), ((HB.out.cell (World.block_lt_of_cell? w _ hw179_1)).trans hw179_1), ((HB.out.cell (World.block_lt_of_cell? w _ hw179_2)).trans hw179_2), ((HB.out.cell (World.block_lt_of_cell? w _ hw179_3)).trans hw179_3)⟩ (fun hHeld => ?_)
        clear hK K
        refine norm_ (a' := ?_) ?_ ?_
        rotate_left
        ·show Act.put _ (some 28) _ = _
         simp only [put, setIfInBounds_toArray, set_cons_zero, set_cons_succ, i64_w, i32_w]
         rfl
        refine done_ (by kernel_rfl) ?_
        have p181 : 0 ≤ (x6_1 : Int) := of_decide_eq_true pa_
        have q181 : x6_1 < (l1.length : Int) := of_decide_eq_true pa_
        obtain ⟨ad181, e181, hx181_0, hx181_1, hx181_2, hx181_3⟩ := at_T32 HR1.out x6_1 p181 q181
        obtain rfl : ad174 = ad181 := (by injection e181)
        replace hx181_0 := (HB.out.cell (World.block_lt_of_cell? w _ hx181_0)).trans hx181_0
        replace hx181_1 := (HB.out.cell (World.block_lt_of_cell? w _ hx181_1)).trans hx181_1
        replace hx181_2 := (HB.out.cell (World.block_lt_of_cell? w _ hx181_2)).trans hx181_2
        replace hx181_3 := (HB.out.cell (World.block_lt_of_cell? w _ hx181_3)).trans hx181_3
        replace p181 := eq_true p181
        replace q181 := eq_true q181
        try go_wp2_with (first | ((with_reducible refine gate_builtin (b := .append) (xs := #[.tmp 29, .tmp 34]) rfl ?_); at_builtin; refine Kd.R_append k32 (w0 := w) w.heap.size rfl (.tmp 29) (.tmp 34) 70 32 (.agg #[(.bool false), (.int .i64 0), (.int .i64 0), (.int .i64 0)]) 32 rfl Try.underlying70 info32 rfl (by decide) (by omega) u5 x5_1 (⟨(⟨(rd_T32 l1 x6_1).f0.f0, (rd_T32 l1 x6_1).f0.f1, (rd_T32 l1 x6_1).f0.f2⟩ : S26), (rd_T32 l1 x6_1).f1⟩ : S32) [.bool ((rd_T32 l1 x6_1).f0.f0), .int .i64 ((rd_T32 l1 x6_1).f0.f1), .int .i64 ((rd_T32 l1 x6_1).f0.f2), .int .i64 ((rd_T32 l1 x6_1).f1)] (fun k_ => k_ ≠ gb170) (fun _ => False) rfl rfl ?aP (fun _ hk => hk.elim) ?aF ?aO ?aB ?aS ?aL ?_; (case aP => exact k32_mkM _ _ _ (⟨(⟨(rd_T32 l1 x6_1).f0.f0, (rd_T32 l1 x6_1).f0.f1, (rd_T32 l1 x6_1).f0.f2⟩ : S26), (rd_T32 l1 x6_1).f1⟩ : S32)); (case aB => exact (hc_ HB.out GE170.out)); (case aF => exact (fun k_ hk => Kd.freshB (g := gb170) (o := .cells #[.bool a0_0, .int .i64 a0_1, .int .i64 a0_2, .int .i64 a0_3] 32 (0, 0)) (bk_ BK170.out) k_ hk)); (case aO => exact (by (with_reducible repeat (first | apply Kd.R_alloc | apply Kd.R_drewN | apply Kd.R_drew)); exact HO_5.out)); (case aS => exact (below_size (hc_ HB.out GE170.out))); (case aL => have := LMc16.out; omega); intro v183 w21 ho hb hg hat; rw [← Ny182.out] at ho; have n0_ := Aside0.mk (blk_grown (g := gb170) (o := .cells #[.bool a0_0, .int .i64 a0_1, .int .i64 a0_2, .int .i64 a0_3] 32 (0, 0)) (bk_ BK170.out) hg (Kd.R_away HO_5.out (fun _ hk => hk))); have n1_ := Aside0.mk (hb); have n2_ := Aside0.mk (ho); clear BK170; clear HB; clear HO_5; have BK170 := n0_; have HB := n1_; have HO184 := n2_; clear n0_ n1_ n2_; clear ho hb hg hat))
        go_roundg k1
        case measure => have := HK1.out; omega
        case rel => exact ⟨(y182), (wrap64 (x6_1 + 1)), (by first | rfl | (simp; done) | (simp [*]; done)), H', ⟨by have := HK1.out; omega⟩, ⟨by (with_reducible repeat (first | apply Kd.R_alloc | apply Kd.R_drewN | apply Kd.R_drew)); exact HO184.out⟩, ⟨by refine bk_ ?_; exact BK170.out⟩, ⟨hc_ HB.out GE170.out⟩⟩
       ·rw [if_neg c16] at H
        exact absurd H (by simp)
      ·replace c15 := Bool.eq_false_iff.mpr c15
       subst c15
       have H1 : (spec_l2Left.l0 k1 l1 x5_1 (wrap64 (x6_1 + 1)) a0_0 a0_1 a0_2 a0_3) = some r := by rw [if_neg (show ¬ (false = true) by decide)] at H; exact H
       clear H
       have H := H1
       clear H1
       have H' := Aside0.mk H
       clear H
       try go_wp2
       have n0_ := Aside0.mk (Kd.R_drew HO_5.out)
       have n1_ := Aside0.mk (blk_drew BK170.out)
       have n2_ := Aside0.mk (below_drew1 HB.out)
       clear HO_5
       clear BK170
       clear HB
       have HO_5 := n0_
       have BK170 := n1_
       have HB := n2_
       clear n0_ n1_ n2_
       have p174 : 0 ≤ (x6_1 : Int) := of_decide_eq_true pa_
       have q174 : x6_1 < (l1.length : Int) := of_decide_eq_true pa_
       obtain ⟨ad174, e174, hx174_0, hx174_1, hx174_2, hx174_3⟩ := at_T32 HR1.out x6_1 p174 q174
       have hw174_3 := hx174_3
       have hw174_2 := hx174_2
       have hw174_1 := hx174_1
       have hw174_0 := hx174_0
       cases e174
       replace hx174_0 := (HB.out.cell (World.block_lt_of_cell? w _ hx174_0)).trans hx174_0
       replace hx174_1 := (HB.out.cell (World.block_lt_of_cell? w _ hx174_1)).trans hx174_1
       replace hx174_2 := (HB.out.cell (World.block_lt_of_cell? w _ hx174_2)).trans hx174_2
       replace hx174_3 := (HB.out.cell (World.block_lt_of_cell? w _ hx174_3)).trans hx174_3
       replace p174 := eq_true p174
       replace q174 := eq_true q174
       refine start_ (n := 6) (S := fun w' => w'.cell? ⟨gb170, 0, none⟩ = some (.bool a0_0) ∧ w'.cell? ⟨gb170, 1, none⟩ = some (.int .i64 a0_1) ∧ w'.cell? ⟨gb170, 2, none⟩ = some (.int .i64 a0_2) ∧ w'.cell? ⟨gb170, 3, none⟩ = some (.int .i64 a0_3) ∧ w'.cell? (ad174.add ((x6_1).toNat * 4)) = some (.bool ((rd_T32 l1 x6_1).f0.f0)) ∧ w'.cell? ⟨(ad174.add ((x6_1).toNat * 4)).block, (ad174.add ((x6_1).toNat * 4)).off + 1, none⟩ = some (.int .i64 ((rd_T32 l1 x6_1).f0.f1)) ∧ w'.cell? ⟨(ad174.add ((x6_1).toNat * 4)).block, (ad174.add ((x6_1).toNat * 4)).off + 2, none⟩ = some (.int .i64 ((rd_T32 l1 x6_1).f0.f2)) ∧ w'.cell? ⟨(ad174.add ((x6_1).toNat * 4)).block, (ad174.add ((x6_1).toNat * 4)).off + 3, none⟩ = some (.int .i64 ((rd_T32 l1 x6_1).f1))) (ds := []) #[false, false, false, false, false, false] (by kernel_rfl) rfl rfl ⟨(blk_cell BK170.out 0).trans rfl, (blk_cell BK170.out 1).trans rfl, (blk_cell BK170.out 2).trans rfl, (blk_cell BK170.out 3).trans rfl, ((HB.out.cell (World.block_lt_of_cell? w _ hw174_0)).trans hw174_0), ((HB.out.cell (World.block_lt_of_cell? w _ hw174_1)).trans hw174_1), ((HB.out.cell (World.block_lt_of_cell? w _ hw174_2)).trans hw174_2), ((HB.out.cell (World.block_lt_of_cell? w _ hw174_3)).trans hw174_3)⟩ (fun hHeld => ?_)
       generalize wr.drew = w22 at HO_5 BK170 HB hx174_0 hx174_1 hx174_2 hx174_3 hHeld ⊢
       refine pure_ (i := 1) (N := some 17) (v := ?_) (a' := ?_) #[false, true, false, false, false, false] rfl rfl (by kernel_rfl) (fun _ _ _ h => h) (Or.inl ⟨by rfl, ?_⟩) ?_ ?_
       rotate_left
       ·intro w'
        go_simp
        with_reducible rfl
       rotate_left
       ·simp only [put, setIfInBounds_toArray, set_cons_zero, set_cons_succ, i64_w, i32_w]
        rfl
       refine pure_ (i := 2) (N := some 18) (v := ?_) (a' := ?_) #[false, true, true, false, false, false] rfl rfl (by kernel_rfl) (fun _ _ _ h => h) (Or.inl ⟨by rfl, ?_⟩) ?_ ?_
       rotate_left
       ·intro w'
        go_simp
        with_reducible rfl
       rotate_left
       ·simp only [put, setIfInBounds_toArray, set_cons_zero, set_cons_succ, i64_w, i32_w]
        rfl
       refine pure_ (i := 3) (N := some 19) (v := ?_) (a' := ?_) #[false, true, true, true, false, false] rfl rfl (by kernel_rfl) (fun _ _ _ h => h) (Or.inl ⟨by rfl, ?_⟩) ?_ ?_
       rotate_left
       ·intro w'
        go_simp
        with_reducible rfl
       rotate_left
       ·simp only [put, setIfInBounds_toArray, set_cons_zero, set_cons_succ, i64_w, i32_w]
        rfl
       refine take_ (i := 0) (N := some 16) (v := ?_) (a' := ?_) #[true, true, true, true, false, false] rfl rfl (by kernel_rfl) (fun _ _ _ h => h) (Or.inl ⟨by rfl, ?_⟩) hHeld ?_ ?_
       rotate_left
       ·rintro w' ⟨s0, s1, s2, s3, s4, s5, s6, s7⟩
        go_simp
        with_reducible rfl
       rotate_left
       ·simp only [put, setIfInBounds_toArray, set_cons_zero, set_cons_succ, i64_w, i32_w]
        rfl
       refine take_ (i := 4) (N := some 20) (v := ?_) (a' := ?_) #[true, true, true, true, true, false] rfl rfl (by kernel_rfl) (fun _ _ _ h => h) (Or.inl ⟨by rfl, ?_⟩) hHeld ?_ ?_
       rotate_left
       ·rintro w' ⟨s0, s1, s2, s3, s4, s5, s6, s7⟩
        go_simp
        with_reducible rfl
       rotate_left
       ·simp only [put, setIfInBounds_toArray, set_cons_zero, set_cons_succ, i64_w, i32_w]
        rfl
       refine one_ (i := 5) (N := some 21) #[true, true, true, true, true, true] rfl rfl (by kernel_rfl) (by decide) (fun K hK => ?_)
       refine goes_ Try.func128 (by kernel_rfl) rfl #[.agg #[.bool a0_0, .int .i64 a0_1, .int .i64 a0_2, .int .i64 a0_3], .agg #[.bool ((rd_T32 l1 x6_1).f0.f0), .int .i64 ((rd_T32 l1 x6_1).f0.f1), .int .i64 ((rd_T32 l1 x6_1).f0.f2), .int .i64 ((rd_T32 l1 x6_1).f1)]] (by rfl) rfl rfl al_ ?_
       with_reducible refine (spec_Within.calls a0_0 a0_1 a0_2 a0_3 ((rd_T32 l1 x6_1).f0.f0) ((rd_T32 l1 x6_1).f0.f1) ((rd_T32 l1 x6_1).f0.f2) ((rd_T32 l1 x6_1).f1) false _ A8.out).mono ?_
       rintro e w23 ⟨rfl, hb⟩
       refine ⟨_, rfl, ?_⟩
       have n0_ := Aside0.mk (Kd.R_below (by (with_reducible repeat (first | apply Kd.R_alloc | apply Kd.R_drewN | apply Kd.R_drew)); exact HO_5.out) hb)
       have n1_ := Aside0.mk (blk_below (bk_ BK170.out) hb)
       have n2_ := Aside0.mk (below_step (hc_ HB.out GE170.out) hb)
       clear HO_5
       clear BK170
       clear HB
       have HO_5 := n0_
       have BK170 := n1_
       have HB := n2_
       clear n0_ n1_ n2_
       (try clear hb)
       (try clear hb2)
       (try clear hk)
       (try clear hi)
       refine hK.out _ _ ⟨(blk_cell BK170.out 0).trans rfl, (blk_cell BK170.out 1).trans rfl, (blk_cell BK170.out 2).trans rfl, (blk_cell BK170.out 3).trans rfl, ((HB.out.cell (World.block_lt_of_cell? w _ hw174_0)).trans hw174_0), ((HB.out.cell (World.block_lt_of_cell? w _ hw174_1)).trans hw174_1), ((HB.out.cell (World.block_lt_of_cell? w _ hw174_2)).trans hw174_2), ((HB.out.cell (World.block_lt_of_cell? w _ hw174_3)).trans hw174_3)⟩ (fun hHeld => ?_)
       clear hK K
       refine norm_ (a' := ?_) ?_ ?_
       rotate_left
       ·show Act.put _ (some 21) _ = _
        simp only [put, setIfInBounds_toArray, set_cons_zero, set_cons_succ, i64_w, i32_w]
        rfl
       refine done_ (by kernel_rfl) ?_
       try go_wp2
       have n0_ := Aside0.mk (Kd.R_drew HO_5.out)
       have n1_ := Aside0.mk (blk_drew BK170.out)
       have n2_ := Aside0.mk (below_drew1 HB.out)
       clear HO_5
       clear BK170
       clear HB
       have HO_5 := n0_
       have BK170 := n1_
       have HB := n2_
       clear n0_ n1_ n2_
       have p179 : 0 ≤ (x6_1 : Int) := of_decide_eq_true pa_
       have q179 : x6_1 < (l1.length : Int) := of_decide_eq_true pa_
       obtain ⟨ad179, e179, hx179_0, hx179_1, hx179_2, hx179_3⟩ := at_T32 HR1.out x6_1 p179 q179
       have hw179_3 := hx179_3
       have hw179_2 := hx179_2
       have hw179_1 := hx179_1
       have hw179_0 := hx179_0
       obtain rfl : ad174 = ad179 := (by injection e179)
       replace hx179_0 := (HB.out.cell (World.block_lt_of_cell? w _ hx179_0)).trans hx179_0
       replace hx179_1 := (HB.out.cell (World.block_lt_of_cell? w _ hx179_1)).trans hx179_1
       replace hx179_2 := (HB.out.cell (World.block_lt_of_cell? w _ hx179_2)).trans hx179_2
       replace hx179_3 := (HB.out.cell (World.block_lt_of_cell? w _ hx179_3)).trans hx179_3
       replace p179 := eq_true p179
       replace q179 := eq_true q179
       refine start_ (n := 6) (S := fun w' => w'.cell? ⟨gb170, 0, none⟩ = some (.bool a0_0) ∧ w'.cell? ⟨gb170, 1, none⟩ = some (.int .i64 a0_1) ∧ w'.cell? ⟨gb170, 2, none⟩ = some (.int .i64 a0_2) ∧ w'.cell? ⟨gb170, 3, none⟩ = some (.int .i64 a0_3) ∧ w'.cell? (ad174.add ((x6_1).toNat * 4)) = some (.bool ((rd_T32 l1 x6_1).f0.f0)) ∧ w'.cell? ⟨(ad174.add ((x6_1).toNat * 4)).block, (ad174.add ((x6_1).toNat * 4)).off + 1, none⟩ = some (.int .i64 ((rd_T32 l1 x6_1).f0.f1)) ∧ w'.cell? ⟨(ad174.add ((x6_1).toNat * 4)).block, (ad174.add ((x6_1).toNat * 4)).off + 2, none⟩ = some (.int .i64 ((rd_T32 l1 x6_1).f0.f2)) ∧ w'.cell? ⟨(ad174.add ((x6_1).toNat * 4)).block, (ad174.add ((x6_1).toNat * 4)).off + 3, none⟩ = some (.int .i64 ((rd_T32 l1 x6_1).f1))) (ds := []) #[false, false, false, false, false, false] (by kernel_rfl) rfl rfl ⟨(blk_cell BK170.out 0).trans rfl, (blk_cell BK170.out 1).trans rfl, (blk_cell BK170.out 2).trans rfl, (blk_cell BK170.out 3).trans rfl, ((HB.out.cell (World.block_lt_of_cell? w _ hw179_0)).trans hw179_0), ((HB.out.cell (World.block_lt_of_cell? w _ hw179_1)).trans hw179_1), ((HB.out.cell (World.block_lt_of_cell? w _ hw179_2)).trans hw179_2), ((HB.out.cell (World.block_lt_of_cell? w _ hw179_3)).trans hw179_3)⟩ (fun hHeld => ?_)
       generalize w23.drew = w24 at HO_5 BK170 HB hx179_0 hx179_1 hx179_2 hx179_3 hHeld ⊢
       refine pure_ (i := 0) (N := some 23) (v := ?_) (a' := ?_) #[true, false, false, false, false, false] rfl rfl (by kernel_rfl) (fun _ _ _ h => h) (Or.inl ⟨by rfl, ?_⟩) ?_ ?_
       rotate_left
       ·intro w'
        go_simp
        with_reducible rfl
       rotate_left
       ·simp only [put, setIfInBounds_toArray, set_cons_zero, set_cons_succ, i64_w, i32_w]
        rfl
       refine pure_ (i := 1) (N := some 24) (v := ?_) (a' := ?_) #[true, true, false, false, false, false] rfl rfl (by kernel_rfl) (fun _ _ _ h => h) (Or.inl ⟨by rfl, ?_⟩) ?_ ?_
       rotate_left
       ·intro w'
        go_simp
        with_reducible rfl
       rotate_left
       ·simp only [put, setIfInBounds_toArray, set_cons_zero, set_cons_succ, i64_w, i32_w]
        rfl
       refine pure_ (i := 2) (N := some 25) (v := ?_) (a' := ?_) #[true, true, true, false, false, false] rfl rfl (by kernel_rfl) (fun _ _ _ h => h) (Or.inl ⟨by rfl, ?_⟩) ?_ ?_
       rotate_left
       ·intro w'
        go_simp
        with_reducible rfl
       rotate_left
       ·simp only [put, setIfInBounds_toArray, set_cons_zero, set_cons_succ, i64_w, i32_w]
        rfl
       refine take_ (i := 3) (N := some 26) (v := ?_) (a' := ?_) #[true, true, true, true, false, false] rfl rfl (by kernel_rfl) (fun _ _ _ h => h) (Or.inl ⟨by rfl, ?_⟩) hHeld ?_ ?_
       rotate_left
       ·rintro w' ⟨s0, s1, s2, s3, s4, s5, s6, s7⟩
        go_simp
        with_reducible rfl
       rotate_left
       ·simp only [put, setIfInBounds_toArray, set_cons_zero, set_cons_succ, i64_w, i32_w]
        rfl
       refine take_ (i := 4) (N := some 27) (v := ?_) (a' := ?_) #[true, true, true, true, true, false] rfl rfl (by kernel_rfl) (fun _ _ _ h => h) (Or.inl ⟨by rfl, ?_⟩) hHeld ?_ ?_
       rotate_left
       ·rintro w' ⟨s0, s1, s2, s3, s4, s5, s6, s7⟩
        go_simp
        with_reducible rfl
       rotate_left
       ·simp only [put, setIfInBounds_toArray, set_cons_zero, set_cons_succ, i64_w, i32_w]
        rfl
       refine one_ (i := 5) (N := some 28) #[true, true, true, true, true, true] rfl rfl (by kernel_rfl) (by decide) (fun K hK => ?_)
       refine goes_ Try.func128 (by kernel_rfl) rfl #[.agg #[.bool ((rd_T32 l1 x6_1).f0.f0), .int .i64 ((rd_T32 l1 x6_1).f0.f1), .int .i64 ((rd_T32 l1 x6_1).f0.f2), .int .i64 ((rd_T32 l1 x6_1).f1)], .agg #[.bool a0_0, .int .i64 a0_1, .int .i64 a0_2, .int .i64 a0_3]] (by rfl) rfl rfl al_ ?_
       with_reducible refine (spec_Within.calls ((rd_T32 l1 x6_1).f0.f0) ((rd_T32 l1 x6_1).f0.f1) ((rd_T32 l1 x6_1).f0.f2) ((rd_T32 l1 x6_1).f1) a0_0 a0_1 a0_2 a0_3 false _ A14.out).mono ?_
       rintro e w25 ⟨rfl, hb⟩
       refine ⟨_, rfl, ?_⟩
       have n0_ := Aside0.mk (Kd.R_below (by (with_reducible repeat (first | apply Kd.R_alloc | apply Kd.R_drewN | apply Kd.R_drew)); exact HO_5.out) hb)
       have n1_ := Aside0.mk (blk_below (bk_ BK170.out) hb)
       have n2_ := Aside0.mk (below_step (hc_ HB.out GE170.out) hb)
       clear HO_5
       clear BK170
       clear HB
       have HO_5 := n0_
       have BK170 := n1_
       have HB := n2_
       clear n0_ n1_ n2_
       (try clear hb)
       (try clear hb2)
       (try clear hk)
       (try clear hi)
       refine hK.out _ _ ⟨(blk_cell BK170.out 0).trans rfl, (blk_cell BK170.out 1).trans rfl, (blk_cell BK170.out 2).trans rfl, (blk_cell BK170.out 3).trans rfl, ((HB.out.cell (World.block_lt_of_cell? w _ hw179_0)).trans hw179_0), ((HB.out.cell (World.block_lt_of_cell? w _ hw179_1)).trans hw179_1), ((HB.out.cell (World.block_lt_of_cell? w _ hw179_2)).trans hw179_2), ((HB.out.cell (World.block_lt_of_cell? w _ hw179_3)).trans hw179_3)⟩ (fun hHeld => ?_)
       clear hK K
       refine norm_ (a' := ?_) ?_ ?_
       rotate_left
       ·show Act.put _ (some 28) _ = _
        simp only [put, setIfInBounds_toArray, set_cons_zero, set_cons_succ, i64_w, i32_w]
        rfl
       refine done_ (by kernel_rfl) ?_
       try go_wp2
       go_roundg k1
       case measure => have := HK1.out; omega
       case rel => exact ⟨(x5_1), (wrap64 (x6_1 + 1)), (by first | rfl | (simp; done) | (simp [*]; done)), H', ⟨by have := HK1.out; omega⟩, ⟨by (with_reducible repeat (first | apply Kd.R_alloc | apply Kd.R_drewN | apply Kd.R_drew)); exact HO_5.out⟩, ⟨by refine bk_ ?_; exact BK170.out⟩, ⟨hc_ HB.out GE170.out⟩⟩
    ·rw [if_neg c7] at H
     exact absurd H (by simp)
   ·rw [if_neg c6] at H
    have c6b0 : decide (x6_1 < (l1.length : Int)) = false := decide_eq_false c6
    clear c6
    by_cases c26 : (x5_1.length : Int) = 0
    ·rw [if_pos c26] at H
     have c26b0 : ((x5_1.length : Int) == 0) = true := beq_iff_eq.mpr c26
     have c26b1 : ((x5_1.length : Int) != 0) = false := bne_eq_false_iff_eq.mpr c26
     clear c26
     obtain ⟨y185, hy185⟩ : ∃ y_ : List (S32), y_ = (([(⟨(⟨a0_0, a0_1, a0_2⟩ : S26), a0_3⟩ : S32)] : List (S32))) := ⟨_, rfl⟩
     replace H : (some y185) = some r := by first | (rw [hy185]; with_reducible exact H) | (have H2_ := (Option.bind_some _ _).symm.trans H; rw [hy185]; with_reducible exact H2_) | (have H2_ := (Option.bind_some _ _).symm.trans H; with_reducible exact H2_) | with_reducible exact H | (rw [hy185]; exact H) | exact H
     have Ny185 := Aside0.mk hy185
     clear hy185
     obtain rfl := Option.some.inj H
     obtain ⟨Ao27, co27, eo27⟩ := Kd.R_slice HO_5.out
     subst eo27
     obtain ⟨hcz28_0, hcz28_1, hcz28_2, hcz28_3, hfz28_0, hfz28_1, hfz28_2, hfz28_3⟩ := bc4_ BK170.out
     go_wp2_with (first | ((with_reducible refine gate_dst (N := 40) rfl ?_); refine Kd.R_lit k32 _ 32 ?hg (N := 40) ?hd (xs := ([(⟨(⟨a0_0, a0_1, a0_2⟩ : S26), a0_3⟩ : S32)] : List (S32))) (inner := [.bool a0_0, .int .i64 a0_1, .int .i64 a0_2, .int .i64 a0_3]) (ok := fun _ => True) (okp := fun _ => True) ?hr ?hp (fun _ hk => hk) trivial (Below.refl _ _) (Nat.le_refl _) (by simp) ?_; (case hd => rfl); (case hg => rfl); (case hr => first | (go_simp; done) | (go_simp; rfl)); (case hp => exact (Reps.c4 (show Kd.M k32 _ _ _ (⟨(⟨a0_0, a0_1, a0_2⟩ : S26), a0_3⟩ : S32) [.bool a0_0, .int .i64 a0_1, .int .i64 a0_2, .int .i64 a0_3] from (k32_mkM _ _ _ (⟨(⟨a0_0, a0_1, a0_2⟩ : S26), a0_3⟩ : S32) )) (Reps.none _ _))); intro v186 w29 ho30 hb hg_ hnew_; clear hg_ hnew_; (first | rw [← Ny185.out] at ho30 | (simp only [Int.reduceToNat] at ho30; rw [← Ny185.out] at ho30)); have n0_ := Aside0.mk (Kd.R_elder' (by (with_reducible repeat (first | apply Kd.R_alloc | apply Kd.R_drewN | apply Kd.R_drew)); exact HO_5.out) (Kd.R_base ho30) hb); have n1_ := Aside0.mk (Kd.R_lower (Kd.R_newB (Kd.R_new' ho30 (Kd.R_lt (by (with_reducible repeat (first | apply Kd.R_alloc | apply Kd.R_drewN | apply Kd.R_drew)); exact HO_5.out))) (g := gb170) (o := .cells #[.bool a0_0, .int .i64 a0_1, .int .i64 a0_2, .int .i64 a0_3] 32 (0, 0)) (bk_ BK170.out)) (below_size (hc_ HB.out GE170.out))); have n2_ := Aside0.mk (blk_below (bk_ BK170.out) hb); have n3_ := Aside0.mk (below_step (hc_ HB.out GE170.out) hb); clear HO_5; clear BK170; clear HB; have HO_5 := n0_; have HO187 := n1_; have BK170 := n2_; have HB := n3_; clear n0_ n1_ n2_ n3_; clear hb ho30))
     go_ret
     exact ⟨_, by first | rfl | (simp [errW_none, errW_some] <;> rfl) | (simp [*, errW_none, errW_some] <;> rfl), by (with_reducible repeat (first | apply Kd.R_alloc | apply Kd.R_drewN | apply Kd.R_drew)); exact Kd.R_mono HO187.out (fun _ hk => trivial), hc_ HB.out GE170.out⟩
    ·rw [if_neg c26] at H
     have c26b0 : ((x5_1.length : Int) == 0) = false := beq_eq_false_iff_ne.mpr c26
     have c26b1 : ((x5_1.length : Int) != 0) = true := bne_iff_ne.mpr c26
     have c26b2 : ¬ (x5_1 = []) := fun h_ => c26 (by rw [h_]; rfl)
     replace H := Option.bind_eq_some_iff.mp H
     obtain ⟨⟨t188, t189, t190, t191, t192, t193, t194, t195⟩, A310, H⟩ := H
     replace H : ((spec_l2Left.f k1 t188 t189 t190 t191 x5_1).bind fun t198 => ((spec_l2Left.f k1 t192 t193 t194 t195 x5_1).bind fun t201 => (if t198.length + t201.length < 4398046511104 then (some (t198 ++ t201)) else (none)))) = some r := H
     have A31 := Aside0.mk A310
     clear A310
     replace H := Option.bind_eq_some_iff.mp H
     obtain ⟨t198, A320, H⟩ := H
     replace H : ((spec_l2Left.f k1 t192 t193 t194 t195 x5_1).bind fun t201 => (if t198.length + t201.length < 4398046511104 then (some (t198 ++ t201)) else (none))) = some r := H
     have A32 := Aside0.mk A320
     clear A320
     replace H := Option.bind_eq_some_iff.mp H
     obtain ⟨t201, A330, H⟩ := H
     replace H : (if t198.length + t201.length < 4398046511104 then (some (t198 ++ t201)) else (none)) = some r := H
     have A33 := Aside0.mk A330
     clear A330
     by_cases c34 : t198.length + t201.length < 4398046511104
     ·rw [if_pos c34] at H
      have LMc34 := Aside0.mk c34
      clear c34
      obtain ⟨y204, hy204⟩ : ∃ y_ : List (S32), y_ = (t198 ++ t201) := ⟨_, rfl⟩
      replace H : (some y204) = some r := by first | (rw [hy204]; with_reducible exact H) | (have H2_ := (Option.bind_some _ _).symm.trans H; rw [hy204]; with_reducible exact H2_) | (have H2_ := (Option.bind_some _ _).symm.trans H; with_reducible exact H2_) | with_reducible exact H | (rw [hy204]; exact H) | exact H
      have Ny204 := Aside0.mk hy204
      clear hy204
      obtain rfl := Option.some.inj H
      obtain ⟨Ao35, co35, eo35⟩ := Kd.R_slice HO_5.out
      subst eo35
      obtain ⟨hcz36_0, hcz36_1, hcz36_2, hcz36_3, hfz36_0, hfz36_1, hfz36_2, hfz36_3⟩ := bc4_ BK170.out
      try go_wp2_with (first | ((with_reducible refine gate_callee (f := 79) rfl ?_); refine goesL_ (some 43) rfl rfl Try.func79 (by kernel_rfl) rfl #[.agg #[.bool a0_0, .int .i64 a0_1, .int .i64 a0_2, .int .i64 a0_3]] rfl al_ ?_; (with_reducible refine (spec_l2Halves.calls a0_0 a0_1 a0_2 a0_3 t188 t189 t190 t191 t192 t193 t194 t195 _ A31.out).mono ?_); rintro e w37 ⟨rfl, hb⟩; refine ⟨_, rfl, ?_⟩; have n0_ := Aside0.mk (Kd.R_below (by (with_reducible repeat (first | apply Kd.R_alloc | apply Kd.R_drewN | apply Kd.R_drew)); exact HO_5.out) hb); have n1_ := Aside0.mk (blk_below (bk_ BK170.out) hb); have n2_ := Aside0.mk (below_step (hc_ HB.out GE170.out) hb); clear HO_5; clear BK170; clear HB; have HO_5 := n0_; have BK170 := n1_; have HB := n2_; clear n0_ n1_ n2_; (try clear hb); (try clear hb2); (try clear hk); (try clear hi)) | ((with_reducible refine gate_dst (N := 7) rfl ?_); refine box_event ?hg (N := 7) ?hd (cs := #[.bool false, .int .i64 0, .int .i64 0, .int .i64 0]) (t := 32) ?hr ?_; (case hd => rfl); (case hg => rfl); (case hr => first | (go_simp; done) | (go_simp; rfl)); intro gb196 hg w38 hbox hb; have n0_ := Aside0.mk (Kd.R_below (Kd.R_elderB (by (with_reducible repeat (first | apply Kd.R_alloc | apply Kd.R_drewN | apply Kd.R_drew)); exact HO_5.out) gb196 (Nat.le_of_eq hg.symm)) hb); have n1_ := Aside0.mk (blk_below (bk_ BK170.out) hb); have n2_ := Aside0.mk (below_step (hc_ HB.out GE170.out) hb); have n3_ := Aside0.mk (hbox); have n4_ := bg_ hg (below_size (hc_ HB.out GE170.out)); have n5_ := bg_ hg (below_size (hc_ HB.out GE170.out)); have n6_ := bn_ hg (blk_lt (bk_ BK170.out)); have n7_ := bm_ hg (blk_lt (bk_ BK170.out)); clear HO_5; clear BK170; clear HB; have HO_5 := n0_; have BK170 := n1_; have HB := n2_; have BK196 := n3_; have GW196 := n4_; have GE196 := n5_; have NB170_196 := n6_; have NB196_170 := n7_; clear n0_ n1_ n2_ n3_ n4_ n5_ n6_ n7_; clear hb hbox hg) | ((with_reducible refine gate_dst (N := 8) rfl ?_); refine box_event ?hg (N := 8) ?hd (cs := #[.bool false, .int .i64 0, .int .i64 0, .int .i64 0]) (t := 32) ?hr ?_; (case hd => rfl); (case hg => rfl); (case hr => first | (go_simp; done) | (go_simp; rfl)); intro gb197 hg w39 hbox hb; have n0_ := Aside0.mk (Kd.R_below (Kd.R_elderB (by (with_reducible repeat (first | apply Kd.R_alloc | apply Kd.R_drewN | apply Kd.R_drew)); exact HO_5.out) gb197 (Nat.le_of_eq hg.symm)) hb); have n1_ := Aside0.mk (blk_below (bk_ BK170.out) hb); have n2_ := Aside0.mk (blk_below (bk_ BK196.out) hb); have n3_ := Aside0.mk (below_step (hd_ HB.out GE170.out GE196.out) hb); have n4_ := Aside0.mk (hbox); have n5_ := bg_ hg (below_size (hd_ HB.out GE170.out GE196.out)); have n6_ := bg_ hg (below_size (hd_ HB.out GE170.out GE196.out)); have n7_ := bn_ hg (blk_lt (bk_ BK170.out)); have n8_ := bm_ hg (blk_lt (bk_ BK170.out)); have n9_ := bn_ hg (blk_lt (bk_ BK196.out)); have n10_ := bm_ hg (blk_lt (bk_ BK196.out)); clear HO_5; clear BK170; clear BK196; clear HB; have HO_5 := n0_; have BK170 := n1_; have BK196 := n2_; have HB := n3_; have BK197 := n4_; have GW197 := n5_; have GE197 := n6_; have NB170_197 := n7_; have NB197_170 := n8_; have NB196_197 := n9_; have NB197_196 := n10_; clear n0_ n1_ n2_ n3_ n4_ n5_ n6_ n7_ n8_ n9_ n10_; clear hb hbox hg; have hnb40 := NB196_170.out; have hnc40 := NB170_196.out; have hnb41 := NB196_197.out; have hnc41 := NB197_196.out; obtain ⟨hcz42_0, hcz42_1, hcz42_2, hcz42_3, hfz42_0, hfz42_1, hfz42_2, hfz42_3⟩ := bc4_ BK196.out; have hnb43 := NB197_170.out; have hnc43 := NB170_197.out; obtain ⟨hcz44_0, hcz44_1, hcz44_2, hcz44_3, hfz44_0, hfz44_1, hfz44_2, hfz44_3⟩ := bc4_ BK197.out))
      have n0_ : Aside0 (Kd.R k32 32 ((((((((w39.setCell ⟨gb196, 0, none⟩ (.bool t188)).setCell ⟨gb196, 1, none⟩ (.int .i64 t189)).setCell ⟨gb196, 2, none⟩ (.int .i64 t190)).setCell ⟨gb196, 3, none⟩ (.int .i64 t191)).setCell ⟨gb197, 0, none⟩ (.bool t192)).setCell ⟨gb197, 1, none⟩ (.int .i64 t193)).setCell ⟨gb197, 2, none⟩ (.int .i64 t194)).setCell ⟨gb197, 3, none⟩ (.int .i64 t195)) w.heap.size (fun k_ => k_ ≠ gb170 ∧ k_ ≠ gb196 ∧ k_ ≠ gb197) (.slice Ao35 x5_1.length co35) x5_1) := ⟨by (with_reducible repeat (first | apply Kd.R_alloc | apply Kd.R_drewN | apply Kd.R_drew)); exact Kd.R_mono (Kd.R_far (p := ⟨gb197, 3, none⟩) (Kd.R_far (p := ⟨gb197, 2, none⟩) (Kd.R_far (p := ⟨gb197, 1, none⟩) (Kd.R_far (p := ⟨gb197, 0, none⟩) (Kd.R_far (p := ⟨gb196, 3, none⟩) (Kd.R_far (p := ⟨gb196, 2, none⟩) (Kd.R_far (p := ⟨gb196, 1, none⟩) (Kd.R_far (p := ⟨gb196, 0, none⟩) (Kd.R_mono (Kd.R_mono HO_5.out (fun k_ hk => (⟨hk, hk.1.2⟩ : _ ∧ k_ ≠ gb196))) (fun k_ hk => (⟨hk, hk.1.2⟩ : _ ∧ k_ ≠ gb197))) (fun _ hk => hk.1.2) (.bool t188)) (fun _ hk => hk.1.2) (.int .i64 t189)) (fun _ hk => hk.1.2) (.int .i64 t190)) (fun _ hk => hk.1.2) (.int .i64 t191)) (fun _ hk => hk.2) (.bool t192)) (fun _ hk => hk.2) (.int .i64 t193)) (fun _ hk => hk.2) (.int .i64 t194)) (fun _ hk => hk.2) (.int .i64 t195)) (fun _ hk => ⟨hk.1.1.1.1, ⟨hk.1.1.1.2, hk.1.1.2⟩⟩)⟩
      have n1_ : Aside0 (((((((((w39.setCell ⟨gb196, 0, none⟩ (.bool t188)).setCell ⟨gb196, 1, none⟩ (.int .i64 t189)).setCell ⟨gb196, 2, none⟩ (.int .i64 t190)).setCell ⟨gb196, 3, none⟩ (.int .i64 t191)).setCell ⟨gb197, 0, none⟩ (.bool t192)).setCell ⟨gb197, 1, none⟩ (.int .i64 t193)).setCell ⟨gb197, 2, none⟩ (.int .i64 t194)).setCell ⟨gb197, 3, none⟩ (.int .i64 t195)).heap[gb170]? = some (.cells #[.bool a0_0, .int .i64 a0_1, .int .i64 a0_2, .int .i64 a0_3] 32 (0, 0))) := ⟨by refine bk_ ?_; refine blk_far ?_ NB170_197.out _; refine bk_ ?_; refine blk_far ?_ NB170_197.out _; refine bk_ ?_; refine blk_far ?_ NB170_197.out _; refine bk_ ?_; refine blk_far ?_ NB170_197.out _; refine bk_ ?_; refine blk_far ?_ NB170_196.out _; refine bk_ ?_; refine blk_far ?_ NB170_196.out _; refine bk_ ?_; refine blk_far ?_ NB170_196.out _; refine bk_ ?_; refine blk_far ?_ NB170_196.out _; refine bk_ ?_; exact BK170.out⟩
      have n2_ : Aside0 (((((((((w39.setCell ⟨gb196, 0, none⟩ (.bool t188)).setCell ⟨gb196, 1, none⟩ (.int .i64 t189)).setCell ⟨gb196, 2, none⟩ (.int .i64 t190)).setCell ⟨gb196, 3, none⟩ (.int .i64 t191)).setCell ⟨gb197, 0, none⟩ (.bool t192)).setCell ⟨gb197, 1, none⟩ (.int .i64 t193)).setCell ⟨gb197, 2, none⟩ (.int .i64 t194)).setCell ⟨gb197, 3, none⟩ (.int .i64 t195)).heap[gb196]? = some (.cells #[.bool t188, .int .i64 t189, .int .i64 t190, .int .i64 t191] 32 (0, 0))) := ⟨by refine bk_ ?_; refine blk_far ?_ NB196_197.out _; refine bk_ ?_; refine blk_far ?_ NB196_197.out _; refine bk_ ?_; refine blk_far ?_ NB196_197.out _; refine bk_ ?_; refine blk_far ?_ NB196_197.out _; refine bk_ ?_; refine blk_put (cs := #[.bool t188, .int .i64 t189, .int .i64 t190, .int .i64 0]) ?_ 3 _ rfl; refine bk_ ?_; refine blk_put (cs := #[.bool t188, .int .i64 t189, .int .i64 0, .int .i64 0]) ?_ 2 _ rfl; refine bk_ ?_; refine blk_put (cs := #[.bool t188, .int .i64 0, .int .i64 0, .int .i64 0]) ?_ 1 _ rfl; refine bk_ ?_; refine blk_put (cs := #[.bool false, .int .i64 0, .int .i64 0, .int .i64 0]) ?_ 0 _ rfl; refine bk_ ?_; exact BK196.out⟩
      have n3_ : Aside0 (((((((((w39.setCell ⟨gb196, 0, none⟩ (.bool t188)).setCell ⟨gb196, 1, none⟩ (.int .i64 t189)).setCell ⟨gb196, 2, none⟩ (.int .i64 t190)).setCell ⟨gb196, 3, none⟩ (.int .i64 t191)).setCell ⟨gb197, 0, none⟩ (.bool t192)).setCell ⟨gb197, 1, none⟩ (.int .i64 t193)).setCell ⟨gb197, 2, none⟩ (.int .i64 t194)).setCell ⟨gb197, 3, none⟩ (.int .i64 t195)).heap[gb197]? = some (.cells #[.bool t192, .int .i64 t193, .int .i64 t194, .int .i64 t195] 32 (0, 0))) := ⟨by refine bk_ ?_; refine blk_put (cs := #[.bool t192, .int .i64 t193, .int .i64 t194, .int .i64 0]) ?_ 3 _ rfl; refine bk_ ?_; refine blk_put (cs := #[.bool t192, .int .i64 t193, .int .i64 0, .int .i64 0]) ?_ 2 _ rfl; refine bk_ ?_; refine blk_put (cs := #[.bool t192, .int .i64 0, .int .i64 0, .int .i64 0]) ?_ 1 _ rfl; refine bk_ ?_; refine blk_put (cs := #[.bool false, .int .i64 0, .int .i64 0, .int .i64 0]) ?_ 0 _ rfl; refine bk_ ?_; refine blk_far ?_ NB197_196.out _; refine bk_ ?_; refine blk_far ?_ NB197_196.out _; refine bk_ ?_; refine blk_far ?_ NB197_196.out _; refine bk_ ?_; refine blk_far ?_ NB197_196.out _; refine bk_ ?_; exact BK197.out⟩
      have n4_ : Aside0 (Below w.heap.size w ((((((((w39.setCell ⟨gb196, 0, none⟩ (.bool t188)).setCell ⟨gb196, 1, none⟩ (.int .i64 t189)).setCell ⟨gb196, 2, none⟩ (.int .i64 t190)).setCell ⟨gb196, 3, none⟩ (.int .i64 t191)).setCell ⟨gb197, 0, none⟩ (.bool t192)).setCell ⟨gb197, 1, none⟩ (.int .i64 t193)).setCell ⟨gb197, 2, none⟩ (.int .i64 t194)).setCell ⟨gb197, 3, none⟩ (.int .i64 t195))) := ⟨by repeat (first | (with_reducible first | exact HB.out | apply below_alloc | apply pw_below_drewN | apply below_drew1 | refine below_set ?_ GE170.out | refine below_set ?_ GE196.out | refine below_set ?_ GE197.out) | exact HB.out)⟩
      (try clear HO_5)
      (try clear BK170)
      (try clear BK196)
      (try clear BK197)
      (try clear HB)
      generalize ((((((((w39.setCell ⟨gb196, 0, none⟩ (.bool t188)).setCell ⟨gb196, 1, none⟩ (.int .i64 t189)).setCell ⟨gb196, 2, none⟩ (.int .i64 t190)).setCell ⟨gb196, 3, none⟩ (.int .i64 t191)).setCell ⟨gb197, 0, none⟩ (.bool t192)).setCell ⟨gb197, 1, none⟩ (.int .i64 t193)).setCell ⟨gb197, 2, none⟩ (.int .i64 t194)).setCell ⟨gb197, 3, none⟩ (.int .i64 t195)) = w45 at n0_ n1_ n2_ n3_ n4_ ⊢
      have HO_5 := n0_
      have BK170 := n1_
      have BK196 := n2_
      have BK197 := n3_
      have HB := n4_
      clear n0_ n1_ n2_ n3_ n4_
      have n0_ := Aside0.mk (Kd.R_drew HO_5.out)
      have n1_ := Aside0.mk (blk_drew BK170.out)
      have n2_ := Aside0.mk (blk_drew BK196.out)
      have n3_ := Aside0.mk (blk_drew BK197.out)
      have n4_ := Aside0.mk (below_drew1 HB.out)
      clear HO_5
      clear BK170
      clear BK196
      clear BK197
      clear HB
      have HO_5 := n0_
      have BK170 := n1_
      have BK196 := n2_
      have BK197 := n3_
      have HB := n4_
      clear n0_ n1_ n2_ n3_ n4_
      refine start_ (n := 8) (S := fun w' => w'.cell? ⟨gb196, 0, none⟩ = some (.bool t188) ∧ w'.cell? ⟨gb196, 1, none⟩ = some (.int .i64 t189) ∧ w'.cell? ⟨gb196, 2, none⟩ = some (.int .i64 t190) ∧ w'.cell? ⟨gb196, 3, none⟩ = some (.int .i64 t191) ∧ w'.cell? ⟨gb197, 0, none⟩ = some (.bool t192) ∧ w'.cell? ⟨gb197, 1, none⟩ = some (.int .i64 t193) ∧ w'.cell? ⟨gb197, 2, none⟩ = some (.int .i64 t194) ∧ w'.cell? ⟨gb197, 3, none⟩ = some (.int .i64 t195)) (ds := []) #[false, false, false, false, false, false, false, false] (by kernel_rfl) rfl rfl ⟨(blk_cell BK196.out 0).trans rfl, (blk_cell BK196.out 1).trans rfl, (blk_cell BK196.out 2).trans rfl, (blk_cell BK196.out 3).trans rfl, (blk_cell BK197.out 0).trans rfl, (blk_cell BK197.out 1).trans rfl, (blk_cell BK197.out 2).trans rfl, (blk_cell BK197.out 3).trans rfl⟩ (fun hHeld => ?_); refine with_tabW spec_l2Left.tab12 spec_l2Left.bits12 (fun HT_ HW_ => ?_)
      generalize w45.drew = w46 at HO_5 BK170 BK196 BK197 HB hHeld ⊢
      refine pure_ (i := 1) (N := some 47) (v := ?_) (a' := ?_) #[false, true, false, false, false, false, false, false] rfl rfl (any_of HT_.out (by kernel_rfl)) (fun _ _ _ h => h) (Or.inl ⟨by rfl, ?_⟩) ?_ ?_
      rotate_left
      ·intro w'
       go_simp
       with_reducible rfl
      rotate_left
      ·simp only [put, setIfInBounds_toArray, set_cons_zero, set_cons_succ, i64_w, i32_w]
       rfl
      refine pure_ (i := 4) (N := some 50) (v := ?_) (a' := ?_) #[false, true, false, false, true, false, false, false] rfl rfl (any_of HT_.out (by kernel_rfl)) (fun _ _ _ h => h) (Or.inl ⟨by rfl, ?_⟩) ?_ ?_
      rotate_left
      ·intro w'
       go_simp
       with_reducible rfl
      rotate_left
      ·simp only [put, setIfInBounds_toArray, set_cons_zero, set_cons_succ, i64_w, i32_w]
       rfl
      refine take_ (i := 0) (N := some 46) (v := ?_) (a' := ?_) #[true, true, false, false, true, false, false, false] rfl rfl (take_ofW HT_.out HW_.out (by kernel_rfl)) (fun _ _ _ h => h) (Or.inl ⟨by rfl, ?_⟩) hHeld ?_ ?_
      rotate_left
      ·rintro w' ⟨s0, s1, s2, s3, s4, s5, s6, s7⟩
       go_simp
       with_reducible rfl
      rotate_left
      ·simp only [put, setIfInBounds_toArray, set_cons_zero, set_cons_succ, i64_w, i32_w]
       rfl
      refine take_ (i := 3) (N := some 49) (v := ?_) (a' := ?_) #[true, true, false, true, true, false, false, false] rfl rfl (take_ofW HT_.out HW_.out (by kernel_rfl)) (fun _ _ _ h => h) (Or.inl ⟨by rfl, ?_⟩) hHeld ?_ ?_
      rotate_left
      ·rintro w' ⟨s0, s1, s2, s3, s4, s5, s6, s7⟩
       go_simp
       with_reducible rfl
      rotate_left
      ·simp only [put, setIfInBounds_toArray, set_cons_zero, set_cons_succ, i64_w, i32_w]
       rfl
      refine one_ (i := 2) (N := some 48) #[true, true, true, true, true, false, false, false] rfl rfl (one_of HT_.out (by kernel_rfl)) (by decide) (fun K hK => ?_)
      refine goes_ Try.func108 (by kernel_rfl) rfl #[.agg #[.bool t188, .int .i64 t189, .int .i64 t190, .int .i64 t191], .slice Ao35 x5_1.length co35] (by rfl) rfl rfl al_ ?_
      with_reducible refine (ih k1 (by have := HK1.out; omega) t188 t189 t190 t191 _ _ x5_1 t198 _ ?side1 ?side2 A32.out).mono ?_
      (case side1 => repeat (first | exact (Kd.R_reads' HO_5.out).2.2 | (with_reducible refine Kd.C_alloc ?_ _) | (with_reducible refine Kd.C_drewN ?_ _) | (with_reducible refine Kd.C_drew ?_)))
      (case side2 => exact (Kd.R_reads' HO_5.out).2.1)
      rintro e w47 ⟨v199, rfl, ho0, hb⟩
      refine ⟨_, rfl, ?_⟩
      have n0_ := Aside0.mk (Kd.R_elder' (by (with_reducible repeat (first | apply Kd.R_alloc | apply Kd.R_drewN | apply Kd.R_drew)); exact HO_5.out) (Kd.R_base ho0) hb)
      have n1_ := Aside0.mk (Kd.R_lower (Kd.R_newB (Kd.R_newB (Kd.R_newB (Kd.R_new' ho0 (Kd.R_lt (by (with_reducible repeat (first | apply Kd.R_alloc | apply Kd.R_drewN | apply Kd.R_drew)); exact HO_5.out))) (g := gb170) (o := .cells #[.bool a0_0, .int .i64 a0_1, .int .i64 a0_2, .int .i64 a0_3] 32 (0, 0)) (bk_ BK170.out)) (g := gb196) (o := .cells #[.bool t188, .int .i64 t189, .int .i64 t190, .int .i64 t191] 32 (0, 0)) (bk_ BK196.out)) (g := gb197) (o := .cells #[.bool t192, .int .i64 t193, .int .i64 t194, .int .i64 t195] 32 (0, 0)) (bk_ BK197.out)) (below_size (by repeat (first | (with_reducible first | exact HB.out | apply below_alloc | apply pw_below_drewN | apply below_drew1 | refine below_set ?_ GE170.out | refine below_set ?_ GE196.out | refine below_set ?_ GE197.out) | exact HB.out))))
      have n2_ := Aside0.mk (blk_below (bk_ BK170.out) hb)
      have n3_ := Aside0.mk (blk_below (bk_ BK196.out) hb)
      have n4_ := Aside0.mk (blk_below (bk_ BK197.out) hb)
      have n5_ := Aside0.mk (below_step (by repeat (first | (with_reducible first | exact HB.out | apply below_alloc | apply pw_below_drewN | apply below_drew1 | refine below_set ?_ GE170.out | refine below_set ?_ GE196.out | refine below_set ?_ GE197.out) | exact HB.out)) hb)
      clear HO_5
      clear BK170
      clear BK196
      clear BK197
      clear HB
      have HO_5 := n0_
      have HO200 := n1_
      have BK170 := n2_
      have BK196 := n3_
      have BK197 := n4_
      have HB := n5_
      clear n0_ n1_ n2_ n3_ n4_ n5_
      (try clear hb)
      (try clear hb2)
      (try clear hk)
      (try clear hi)
      (try clear ho0)
      refine hK.out _ _ ⟨(blk_cell BK196.out 0).trans rfl, (blk_cell BK196.out 1).trans rfl, (blk_cell BK196.out 2).trans rfl, (blk_cell BK196.out 3).trans rfl, (blk_cell BK197.out 0).trans rfl, (blk_cell BK197.out 1).trans rfl, (blk_cell BK197.out 2).trans rfl, (blk_cell BK197.out 3).trans rfl⟩ (fun hHeld => ?_)
      clear hK K
      refine norm_ (a' := ?_) ?_ ?_
      rotate_left
      ·show Act.put _ (some 48) _ = _
       simp only [put, setIfInBounds_toArray, set_cons_zero, set_cons_succ, i64_w, i32_w]
       rfl
      refine one_ (i := 5) (N := some 51) #[true, true, true, true, true, true, false, false] rfl rfl (one_of HT_.out (by kernel_rfl)) (by decide) (fun K hK => ?_)
      refine goes_ Try.func108 (by kernel_rfl) rfl #[.agg #[.bool t192, .int .i64 t193, .int .i64 t194, .int .i64 t195], .slice Ao35 x5_1.length co35] (by rfl) rfl rfl al_ ?_
      with_reducible refine (ih k1 (by have := HK1.out; omega) t192 t193 t194 t195 _ _ x5_1 t201 _ ?side1 ?side2 A33.out).mono ?_
      (case side1 => repeat (first | exact (Kd.R_reads' HO_5.out).2.2 | (with_reducible refine Kd.C_alloc ?_ _) | (with_reducible refine Kd.C_drewN ?_ _) | (with_reducible refine Kd.C_drew ?_)))
      (case side2 => exact (Kd.R_reads' HO_5.out).2.1)
      rintro e w48 ⟨v202, rfl, ho0, hb⟩
      refine ⟨_, rfl, ?_⟩
      have n0_ := Aside0.mk (Kd.R_elder' (by (with_reducible repeat (first | apply Kd.R_alloc | apply Kd.R_drewN | apply Kd.R_drew)); exact HO_5.out) (Kd.R_base ho0) hb)
      have n1_ := Aside0.mk (Kd.R_elder' (by (with_reducible repeat (first | apply Kd.R_alloc | apply Kd.R_drewN | apply Kd.R_drew)); exact HO200.out) (Kd.R_base ho0) hb)
      have n2_ := Aside0.mk (Kd.R_lower (Kd.R_newB (Kd.R_newB (Kd.R_newB (Kd.R_new' (Kd.R_new' ho0 (Kd.R_lt (by (with_reducible repeat (first | apply Kd.R_alloc | apply Kd.R_drewN | apply Kd.R_drew)); exact HO_5.out))) (Kd.R_lt (by (with_reducible repeat (first | apply Kd.R_alloc | apply Kd.R_drewN | apply Kd.R_drew)); exact HO200.out))) (g := gb170) (o := .cells #[.bool a0_0, .int .i64 a0_1, .int .i64 a0_2, .int .i64 a0_3] 32 (0, 0)) (bk_ BK170.out)) (g := gb196) (o := .cells #[.bool t188, .int .i64 t189, .int .i64 t190, .int .i64 t191] 32 (0, 0)) (bk_ BK196.out)) (g := gb197) (o := .cells #[.bool t192, .int .i64 t193, .int .i64 t194, .int .i64 t195] 32 (0, 0)) (bk_ BK197.out)) (below_size (by repeat (first | (with_reducible first | exact HB.out | apply below_alloc | apply pw_below_drewN | apply below_drew1 | refine below_set ?_ GE170.out | refine below_set ?_ GE196.out | refine below_set ?_ GE197.out) | exact HB.out))))
      have n3_ := Aside0.mk (blk_below (bk_ BK170.out) hb)
      have n4_ := Aside0.mk (blk_below (bk_ BK196.out) hb)
      have n5_ := Aside0.mk (blk_below (bk_ BK197.out) hb)
      have n6_ := Aside0.mk (below_step (by repeat (first | (with_reducible first | exact HB.out | apply below_alloc | apply pw_below_drewN | apply below_drew1 | refine below_set ?_ GE170.out | refine below_set ?_ GE196.out | refine below_set ?_ GE197.out) | exact HB.out)) hb)
      clear HO_5
      clear HO200
      clear BK170
      clear BK196
      clear BK197
      clear HB
      have HO_5 := n0_
      have HO200 := n1_
      have HO203 := n2_
      have BK170 := n3_
      have BK196 := n4_
      have BK197 := n5_
      have HB := n6_
      clear n0_ n1_ n2_ n3_ n4_ n5_ n6_
      (try clear hb)
      (try clear hb2)
      (try clear hk)
      (try clear hi)
      (try clear ho0)
      obtain ⟨Ao50, co50, eo50⟩ := Kd.R_slice HO203.out
      (first | subst eo50 | (injection eo50 with f1_ f2_ f3_; have f4_ := f1_.symm; have f5_ := f3_.symm; clear f1_ f2_ f3_; subst f4_; subst f5_))
      refine hK.out _ _ ⟨(blk_cell BK196.out 0).trans rfl, (blk_cell BK196.out 1).trans rfl, (blk_cell BK196.out 2).trans rfl, (blk_cell BK196.out 3).trans rfl, (blk_cell BK197.out 0).trans rfl, (blk_cell BK197.out 1).trans rfl, (blk_cell BK197.out 2).trans rfl, (blk_cell BK197.out 3).trans rfl⟩ (fun hHeld => ?_)
      clear hK K
      refine norm_ (a' := ?_) ?_ ?_
      rotate_left
      ·show Act.put _ (some 51) _ = _
       simp only [put, setIfInBounds_toArray, set_cons_zero, set_cons_succ, i64_w, i32_w]
       rfl
      refine one_ (i := 6) (N := some 52) #[true, true, true, true, true, true, true, false] rfl rfl (one_of HT_.out (by kernel_rfl)) (by decide) (fun K hK => ?_)
      refine Kd.R_append_rows_step k32 (w0 := w) w.heap.size (by rfl) (.tmp 48) (.tmp 51) 70 32 (.agg #[(.bool false), (.int .i64 0), (.int .i64 0), (.int .i64 0)]) 32 rfl Try.underlying70 info32 rfl (by decide) (by omega) v199 t198 t201 _ _ _ (fun k_ => some k_ ≠ (.slice Ao35 x5_1.length co35 : Value).ownBlock ∧ some k_ ≠ (.slice Ao50 t201.length co50 : Value).ownBlock ∧ k_ ≠ gb170 ∧ k_ ≠ gb196 ∧ k_ ≠ gb197) (fun _ => False) rfl rfl ?aO ?aR (fun _ _ h => h) (fun _ h => h.elim) ?aF ?aB ?aS ?aL ?_
      (case aR => repeat (first | exact (Kd.R_reads' HO203.out).2.2 | (with_reducible refine Kd.C_alloc ?_ _) | (with_reducible refine Kd.C_drewN ?_ _) | (with_reducible refine Kd.C_drew ?_)))
      (case aB => exact (by repeat (first | (with_reducible first | exact HB.out | apply below_alloc | apply pw_below_drewN | apply below_drew1 | refine below_set ?_ GE170.out | refine below_set ?_ GE196.out | refine below_set ?_ GE197.out) | exact HB.out)))
      (case aF => exact (fun k_ hk => ⟨Kd.fresh' (Kd.R_lt (by (with_reducible repeat (first | apply Kd.R_alloc | apply Kd.R_drewN | apply Kd.R_drew)); exact HO_5.out)) k_ hk, Kd.fresh' (Kd.R_lt (by (with_reducible repeat (first | apply Kd.R_alloc | apply Kd.R_drewN | apply Kd.R_drew)); exact HO203.out)) k_ hk, Kd.freshB (g := gb170) (o := .cells #[.bool a0_0, .int .i64 a0_1, .int .i64 a0_2, .int .i64 a0_3] 32 (0, 0)) (bk_ BK170.out) k_ hk, Kd.freshB (g := gb196) (o := .cells #[.bool t188, .int .i64 t189, .int .i64 t190, .int .i64 t191] 32 (0, 0)) (bk_ BK196.out) k_ hk, Kd.freshB (g := gb197) (o := .cells #[.bool t192, .int .i64 t193, .int .i64 t194, .int .i64 t195] 32 (0, 0)) (bk_ BK197.out) k_ hk⟩))
      (case aO => exact (by (with_reducible repeat (first | apply Kd.R_alloc | apply Kd.R_drewN | apply Kd.R_drew)); exact Kd.R_mono HO200.out (fun _ hk => ⟨hk.1.1.1.1.2, ⟨hk.2, ⟨hk.1.1.1.2, ⟨hk.1.1.2, hk.1.2⟩⟩⟩⟩)))
      (case aS => exact (below_size (by repeat (first | (with_reducible first | exact HB.out | apply below_alloc | apply pw_below_drewN | apply below_drew1 | refine below_set ?_ GE170.out | refine below_set ?_ GE196.out | refine below_set ?_ GE197.out) | exact HB.out))))
      (case aL => have := LMc34.out; omega)
      intro v205 w49 ho hb hg hat
      rw [← Ny204.out] at ho
      have n0_ := Aside0.mk (Kd.R_after (ok := (fun k_ => some k_ ≠ (.slice Ao50 t201.length co50 : Value).ownBlock ∧ k_ ≠ gb170 ∧ k_ ≠ gb196 ∧ k_ ≠ gb197)) (by (with_reducible repeat (first | apply Kd.R_alloc | apply Kd.R_drewN | apply Kd.R_drew)); exact Kd.R_mono HO_5.out (fun _ hk => ⟨⟨hk.2, ⟨hk.1.1.1, ⟨hk.1.1.2.1, hk.1.1.2.2⟩⟩⟩, hk.1.2⟩)) hg hat)
      have n1_ := Aside0.mk (blk_grown (g := gb170) (o := .cells #[.bool a0_0, .int .i64 a0_1, .int .i64 a0_2, .int .i64 a0_3] 32 (0, 0)) (bk_ BK170.out) hg (Kd.R_away HO200.out (fun _ hk => hk.1.1.1.2)))
      have n2_ := Aside0.mk (blk_grown (g := gb196) (o := .cells #[.bool t188, .int .i64 t189, .int .i64 t190, .int .i64 t191] 32 (0, 0)) (bk_ BK196.out) hg (Kd.R_away HO200.out (fun _ hk => hk.1.1.2)))
      have n3_ := Aside0.mk (blk_grown (g := gb197) (o := .cells #[.bool t192, .int .i64 t193, .int .i64 t194, .int .i64 t195] 32 (0, 0)) (bk_ BK197.out) hg (Kd.R_away HO200.out (fun _ hk => hk.1.2)))
      have n4_ := Aside0.mk (Kd.R_after (ok := (fun k_ => some k_ ≠ (.slice Ao35 x5_1.length co35 : Value).ownBlock ∧ k_ ≠ gb170 ∧ k_ ≠ gb196 ∧ k_ ≠ gb197)) (by (with_reducible repeat (first | apply Kd.R_alloc | apply Kd.R_drewN | apply Kd.R_drew)); exact Kd.R_mono HO203.out (fun _ hk => ⟨⟨hk.1.1.1.1.2, ⟨hk.1.1.2, ⟨hk.1.2, hk.2⟩⟩⟩, hk.1.1.1.2⟩)) hg hat)
      have n5_ := Aside0.mk (hb)
      have n6_ := Aside0.mk (ho)
      clear HO_5
      clear BK170
      clear BK196
      clear BK197
      clear HO203
      clear HB
      clear HO200
      have HO_5 := n0_
      have BK170 := n1_
      have BK196 := n2_
      have BK197 := n3_
      have HO203 := n4_
      have HB := n5_
      have HO206 := n6_
      clear n0_ n1_ n2_ n3_ n4_ n5_ n6_
      clear ho hb hg hat
      refine hK.out _ _ ⟨(blk_cell BK196.out 0).trans rfl, (blk_cell BK196.out 1).trans rfl, (blk_cell BK196.out 2).trans rfl, (blk_cell BK196.out 3).trans rfl, (blk_cell BK197.out 0).trans rfl, (blk_cell BK197.out 1).trans rfl, (blk_cell BK197.out 2).trans rfl, (blk_cell BK197.out 3).trans rfl⟩ (fun hHeld => ?_)
      clear hK K
      refine norm_ (a' := ?_) ?_ ?_
      rotate_left
      ·show Act.put _ (some 52) _ = _
       simp only [put, setIfInBounds_toArray, set_cons_zero, set_cons_succ, i64_w, i32_w]
       rfl
      refine pure_ (i := 7) (N := some 4) (v := ?_) (a' := ?_) #[true, true, true, true, true, true, true, true] rfl rfl (any_of HT_.out (by kernel_rfl)) (fun _ _ _ h => h) (Or.inl ⟨by rfl, ?_⟩) ?_ ?_
      rotate_left
      ·intro w'
       go_simp
       with_reducible rfl
      rotate_left
      ·simp only [put, setIfInBounds_toArray, set_cons_zero, set_cons_succ, i64_w, i32_w]
       rfl
      refine done_ (done_of HT_.out (by kernel_rfl)) ?_
      try go_wp2
      go_ret
      exact ⟨_, by first | rfl | (simp [errW_none, errW_some] <;> rfl) | (simp [*, errW_none, errW_some] <;> rfl), by (with_reducible repeat (first | apply Kd.R_alloc | apply Kd.R_drewN | apply Kd.R_drew)); exact Kd.R_mono HO206.out (fun _ hk => trivial), by repeat (first | (with_reducible first | exact HB.out | apply below_alloc | apply pw_below_drewN | apply below_drew1 | refine below_set ?_ GE170.out | refine below_set ?_ GE196.out | refine below_set ?_ GE197.out) | exact HB.out)⟩
     ·rw [if_neg c34] at H
      exact absurd H (by simp)

end Go.Proofs.Ytigmadccchofiaa.QFnExactLargest
