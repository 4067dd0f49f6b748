-- Written by a program of this session (wip/myprint.py); Lean checks it.
import Derived.Test.YthakdhdoeejkmaaQFnFirstAddrx0
import Derived.Test.YthakdhdoeejkmaaQFnFirstAddrx7
import Derived.Test.YthakdhdoeejkmaaQFnFirstAddrx9
import Derived.Test.YthakdhdoeejkmaaQFnFirstAddrx10
namespace Go.Proofs.Ythakdhdoeejkmaa.QFnFirstAddr
open Go.RowKit Go.Proofs.YthakdhdoeejkmaaW.PrintWords Go.Proofs.YthakdhdoeejkmaaW.PrintLast Go.Proofs.YthakdhdoeejkmaaW.PrintMore
open Act (put)
open List (setIfInBounds_toArray set_cons_zero set_cons_succ)
attribute [local go_sem] max2_int min2_int max_two min_two max_three min_three max_four min_four   -- for this text's walks alone
set_option linter.unusedVariables false
set_option linter.unusedSimpArgs false

attribute [local go_sem] isSome_setCell
-- NOT PRINTED: function 157 (bits_Sub64)

/-! ### impl_GapTo: function 107 -/
def impl_GapTo.j0 : Nat → Bool → Bool → Int → Int → Bool → Int → Int → Option (Int × Bool)
 | 0, _, _, _, _, _, _, _ => none
 | k + 1, x24, x405000, x405001, x405002, x406000, x406001, x406002 => if x24 = true then (some (0, false)) else (if (sub64s (IntKind.u64.wrap (x406001)) (IntKind.u64.wrap (x405001)) (sub64c (IntKind.u64.wrap (x406002)) (IntKind.u64.wrap (x405002)) 0)) = 0 then (if (wrap64 (sub64s (IntKind.u64.wrap (x406002)) (IntKind.u64.wrap (x405002)) 0)) < 0 then (some (0, false)) else (some (wrap64 (sub64s (IntKind.u64.wrap (x406002)) (IntKind.u64.wrap (x405002)) 0), true))) else (some (0, false)))
def impl_GapTo.f (k : Nat) (a0_0 : Bool) (a0_1 : Int) (a0_2 : Int) (a1_0 : Bool) (a1_1 : Int) (a1_2 : Int) : Option (Int × Bool) := (impl_right.f a0_0 a0_1 a0_2).bind fun bt406 => ((impl_right.f a1_0 a1_1 a1_2).bind fun bt409 => (if (bt406.1 != bt409.1) = true then (impl_GapTo.j0 k true bt406.1 bt406.2.1 bt406.2.2 bt409.1 bt409.2.1 bt409.2.2) else ((impl_CmpAddr.f k bt409.1 bt409.2.1 bt409.2.2 bt406.1 bt406.2.1 bt406.2.2).bind fun t412 => (impl_GapTo.j0 k (decide (t412 < 0)) bt406.1 bt406.2.1 bt406.2.2 bt409.1 bt409.2.1 bt409.2.2))))
theorem impl_GapTo.mono_l : ∀ k, (∀ y0 y1 y2 y3 y4 y5 y6, LeO (impl_GapTo.j0 k y0 y1 y2 y3 y4 y5 y6) (impl_GapTo.j0 (k + 1) y0 y1 y2 y3 y4 y5 y6))
 | 0 => fun _ _ _ _ _ _ _ r h => by simp [impl_GapTo.j0] at h
 | k + 1 => by
  have ih0 := impl_GapTo.mono_l k
  ·intro y0 y1 y2 y3 y4 y5 y6
   unfold impl_GapTo.j0
   repeat' first
   | (with_reducible exact ih0 _ _ _ _ _ _ _)
   | (with_reducible exact impl_CmpAddr.mono _ _ _ _ _ _ _)
   | (with_reducible exact LeO.refl _)
   | (with_reducible exact LeO.none _)
   | (with_reducible refine LeO.ite ?_ ?_)
   | (with_reducible refine LeO.bind ?_ (fun _ => ?_))
   | exact ih0 _ _ _ _ _ _ _
   | exact impl_CmpAddr.mono _ _ _ _ _ _ _
   | exact LeO.none _
   | refine LeO.ite ?_ ?_
   | refine LeO.bind ?_ (fun _ => ?_)
theorem impl_GapTo.mono : ∀ a0 a1 a2 a3 a4 a5 k, LeO (impl_GapTo.f k a0 a1 a2 a3 a4 a5) (impl_GapTo.f (k + 1) a0 a1 a2 a3 a4 a5) := by
 intro a0 a1 a2 a3 a4 a5 k
 have ih0 := impl_GapTo.mono_l k
 unfold impl_GapTo.f
 repeat' first
   | (with_reducible exact ih0 _ _ _ _ _ _ _)
   | (with_reducible exact impl_CmpAddr.mono _ _ _ _ _ _ _)
   | (with_reducible exact LeO.refl _)
   | (with_reducible exact LeO.none _)
   | (with_reducible refine LeO.ite ?_ ?_)
   | (with_reducible refine LeO.bind ?_ (fun _ => ?_))
   | exact ih0 _ _ _ _ _ _ _
   | exact impl_CmpAddr.mono _ _ _ _ _ _ _
   | exact LeO.none _
   | refine LeO.ite ?_ ?_
   | refine LeO.bind ?_ (fun _ => ?_)
set_option maxHeartbeats 8000000 in
set_option maxRecDepth 100000 in
theorem impl_GapTo.calls (k : Nat) (a0_0 : Bool) (a0_1 : Int) (a0_2 : Int) (a1_0 : Bool) (a1_1 : Int) (a1_2 : Int) (r1 : Int) (r2 : Bool) (w : World) (h : impl_GapTo.f k a0_0 a0_1 a0_2 a1_0 a1_1 a1_2 = some (r1, r2)) :
  Calls Try.prog 107 #[.agg #[.bool a0_0, .int .i64 a0_1, .int .i64 a0_2], .agg #[.bool a1_0, .int .i64 a1_1, .int .i64 a1_2]] w fun e w' => e = .returned (.tuple #[.int .i64 r1, .bool r2]) ∧ Below w.heap.size w w' := by
 have hu29 := Try.underlying29
 have HB := Aside0.mk (Below.refl w.heap.size w)
 have H : ((impl_right.f a0_0 a0_1 a0_2).bind fun bt406 => ((impl_right.f a1_0 a1_1 a1_2).bind fun bt409 => (if (bt406.1 != bt409.1) = true then (impl_GapTo.j0 k true bt406.1 bt406.2.1 bt406.2.2 bt409.1 bt409.2.1 bt409.2.2) else ((impl_CmpAddr.f k bt409.1 bt409.2.1 bt409.2.2 bt406.1 bt406.2.1 bt406.2.2).bind fun t412 => (impl_GapTo.j0 k (decide (t412 < 0)) bt406.1 bt406.2.1 bt406.2.2 bt409.1 bt409.2.1 bt409.2.2))))) = some (r1, r2) := h
 clear h
 replace H := Option.bind_eq_some_iff.mp H
 obtain ⟨⟨t406, t407, t408⟩, A30, H⟩ := H
 replace H : ((impl_right.f a1_0 a1_1 a1_2).bind fun bt409 => (if (t406 != bt409.1) = true then (impl_GapTo.j0 k true t406 t407 t408 bt409.1 bt409.2.1 bt409.2.2) else ((impl_CmpAddr.f k bt409.1 bt409.2.1 bt409.2.2 t406 t407 t408).bind fun t412 => (impl_GapTo.j0 k (decide (t412 < 0)) t406 t407 t408 bt409.1 bt409.2.1 bt409.2.2)))) = some (r1, r2) := H
 have A3 := Aside0.mk A30
 clear A30
 replace H := Option.bind_eq_some_iff.mp H
 obtain ⟨⟨t409, t410, t411⟩, A40, H⟩ := H
 replace H : (if (t406 != t409) = true then (impl_GapTo.j0 k true t406 t407 t408 t409 t410 t411) else ((impl_CmpAddr.f k t409 t410 t411 t406 t407 t408).bind fun t412 => (impl_GapTo.j0 k (decide (t412 < 0)) t406 t407 t408 t409 t410 t411))) = some (r1, r2) := H
 have A4 := Aside0.mk A40
 clear A40
 have HC5 := Aside0.mk H
 clear H
 go_enter Try.func107, Try.ntmps107
 try go_wp2_with (first | ((with_reducible refine gate_dst (N := 2) rfl ?_); refine box_event ?hg (N := 2) ?hd (cs := #[.bool a0_0, .int .i64 a0_1, .int .i64 a0_2]) (t := 29) ?hr ?_; (case hd => rfl); (case hg => rfl); (case hr => first | (go_simp; done) | (go_simp; rfl)); intro gb404 hg w6 hbox hb; have n0_ := Aside0.mk (below_step (hb_ HB.out) hb); have n1_ := Aside0.mk (hbox); have n2_ := bg_ hg (below_size (hb_ HB.out)); have n3_ := bg_ hg (below_size (hb_ HB.out)); clear HB; have HB := n0_; have BK404 := n1_; have GW404 := n2_; have GE404 := n3_; clear n0_ n1_ n2_ n3_; clear hb hbox hg) | ((with_reducible refine gate_dst (N := 3) rfl ?_); refine box_event ?hg (N := 3) ?hd (cs := #[.bool a1_0, .int .i64 a1_1, .int .i64 a1_2]) (t := 29) ?hr ?_; (case hd => rfl); (case hg => rfl); (case hr => first | (go_simp; done) | (go_simp; rfl)); intro gb405 hg w7 hbox hb; have n0_ := Aside0.mk (blk_below (bk_ BK404.out) hb); have n1_ := Aside0.mk (below_step (hc_ HB.out GE404.out) hb); have n2_ := Aside0.mk (hbox); have n3_ := bg_ hg (below_size (hc_ HB.out GE404.out)); have n4_ := bg_ hg (below_size (hc_ HB.out GE404.out)); have n5_ := bn_ hg (blk_lt (bk_ BK404.out)); have n6_ := bm_ hg (blk_lt (bk_ BK404.out)); clear BK404; clear HB; have BK404 := n0_; have HB := n1_; have BK405 := n2_; have GW405 := n3_; have GE405 := n4_; have NB404_405 := n5_; have NB405_404 := n6_; clear n0_ n1_ n2_ n3_ n4_ n5_ n6_; clear hb hbox hg))
 have n0_ := Aside0.mk (blk_drew BK404.out)
 have n1_ := Aside0.mk (blk_drew BK405.out)
 have n2_ := Aside0.mk (below_drew1 HB.out)
 clear BK404
 clear BK405
 clear HB
 have BK404 := n0_
 have BK405 := n1_
 have HB := n2_
 clear n0_ n1_ n2_
 refine start_ (n := 6) (S := fun w' => w'.cell? ⟨gb404, 0, none⟩ = some (.bool a0_0) ∧ w'.cell? ⟨gb404, 1, none⟩ = some (.int .i64 a0_1) ∧ w'.cell? ⟨gb404, 2, none⟩ = some (.int .i64 a0_2) ∧ w'.cell? ⟨gb405, 0, none⟩ = some (.bool a1_0) ∧ w'.cell? ⟨gb405, 1, none⟩ = some (.int .i64 a1_1) ∧ w'.cell? ⟨gb405, 2, none⟩ = some (.int .i64 a1_2)) (ds := [4, 5]) #[false, false, false, false, false, false] (by kernel_rfl) rfl rfl ⟨(blk_cell BK404.out 0).trans rfl, (blk_cell BK404.out 1).trans rfl, (blk_cell BK404.out 2).trans rfl, (blk_cell BK405.out 0).trans rfl, (blk_cell BK405.out 1).trans rfl, (blk_cell BK405.out 2).trans rfl⟩ (fun hHeld => ?_)
 generalize w7.drew = w8 at BK404 BK405 HB hHeld ⊢
 refine take_ (i := 0) (N := some 10) (v := ?_) (a' := ?_) #[true, false, false, false, false, false] rfl rfl (by kernel_rfl) (fun _ _ _ h => h) (Or.inl ⟨by rfl, ?_⟩) hHeld ?_ ?_
 rotate_left
 ·rintro w' ⟨s0, s1, s2, s3, s4, s5⟩
  go_simp
  with_reducible rfl
 rotate_left
 ·simp only [put, setIfInBounds_toArray, set_cons_zero, set_cons_succ, i64_w, i32_w]
  rfl
 refine take_ (i := 2) (N := some 12) (v := ?_) (a' := ?_) #[true, false, true, false, false, false] rfl rfl (by kernel_rfl) (fun _ _ _ h => h) (Or.inl ⟨by rfl, ?_⟩) hHeld ?_ ?_
 rotate_left
 ·rintro w' ⟨s0, s1, s2, s3, s4, s5⟩
  go_simp
  with_reducible rfl
 rotate_left
 ·simp only [put, setIfInBounds_toArray, set_cons_zero, set_cons_succ, i64_w, i32_w]
  rfl
 refine one_ (i := 1) (N := some 11) #[true, true, true, false, false, false] rfl rfl (by kernel_rfl) (by decide) (fun K hK => ?_)
 refine goes_ Try.func101 (by kernel_rfl) rfl #[.agg #[.bool a0_0, .int .i64 a0_1, .int .i64 a0_2]] (by rfl) rfl rfl al_ ?_
 with_reducible refine (impl_right.calls a0_0 a0_1 a0_2 t406 t407 t408 _ A3.out).mono ?_
 rintro e w9 ⟨rfl, hb⟩
 refine ⟨_, rfl, ?_⟩
 have n0_ := Aside0.mk (blk_below (bk_ BK404.out) hb)
 have n1_ := Aside0.mk (blk_below (bk_ BK405.out) hb)
 have n2_ := Aside0.mk (below_step (hd_ HB.out GE404.out GE405.out) hb)
 clear BK404
 clear BK405
 clear HB
 have BK404 := n0_
 have BK405 := n1_
 have HB := n2_
 clear n0_ n1_ n2_
 (try clear hb)
 (try clear hb2)
 (try clear hk)
 (try clear hi)
 refine hK.out _ _ ⟨(blk_cell BK404.out 0).trans rfl, (blk_cell BK404.out 1).trans rfl, (blk_cell BK404.out 2).trans rfl, (blk_cell BK405.out 0).trans rfl, (blk_cell BK405.out 1).trans rfl, (blk_cell BK405.out 2).trans rfl⟩ (fun hHeld => ?_)
 clear hK K
 refine norm_ (a' := ?_) ?_ ?_
 rotate_left
 ·show Act.put _ (some 11) _ = _
  simp only [put, setIfInBounds_toArray, set_cons_zero, set_cons_succ, i64_w, i32_w]
  rfl
 refine one_ (i := 3) (N := some 13) #[true, true, true, true, false, false] rfl rfl (by kernel_rfl) (by decide) (fun K hK => ?_)
 refine goes_ Try.func101 (by kernel_rfl) rfl #[.agg #[.bool a1_0, .int .i64 a1_1, .int .i64 a1_2]] (by rfl) rfl rfl al_ ?_
 with_reducible refine (impl_right.calls a1_0 a1_1 a1_2 t409 t410 t411 _ A4.out).mono ?_
 rintro e w10 ⟨rfl, hb⟩
 refine ⟨_, rfl, ?_⟩
 have n0_ := Aside0.mk (blk_below (bk_ BK404.out) hb)
 have n1_ := Aside0.mk (blk_below (bk_ BK405.out) hb)
 have n2_ := Aside0.mk (below_step (hd_ HB.out GE404.out GE405.out) hb)
 clear BK404
 clear BK405
 clear HB
 have BK404 := n0_
 have BK405 := n1_
 have HB := n2_
 clear n0_ n1_ n2_
 (try clear hb)
 (try clear hb2)
 (try clear hk)
 (try clear hi)
 refine hK.out _ _ ⟨(blk_cell BK404.out 0).trans rfl, (blk_cell BK404.out 1).trans rfl, (blk_cell BK404.out 2).trans rfl, (blk_cell BK405.out 0).trans rfl, (blk_cell BK405.out 1).trans rfl, (blk_cell BK405.out 2).trans rfl⟩ (fun hHeld => ?_)
 clear hK K
 refine norm_ (a' := ?_) ?_ ?_
 rotate_left
 ·show Act.put _ (some 13) _ = _
  simp only [put, setIfInBounds_toArray, set_cons_zero, set_cons_succ, i64_w, i32_w]
  rfl
 refine last_ (i := 4) (N := none) #[true, true, true, true, true, false] rfl rfl (by kernel_rfl) (by decide) (fun K hK => ?_)
 have hs11 : w10.cell? ⟨gb404, 0, none⟩ = some (.bool a0_0) := (blk_cell BK404.out 0).trans rfl
 have hfs11 := blk_frozen BK404.out 0
 have hns11_1 := NB405_404.out
 have hms11_1 := NB404_405.out
 have hs12 : w10.cell? ⟨gb404, 1, none⟩ = some (.int .i64 a0_1) := (blk_cell BK404.out 1).trans rfl
 have hfs12 := blk_frozen BK404.out 1
 have hns12_1 := NB405_404.out
 have hms12_1 := NB404_405.out
 have hs13 : w10.cell? ⟨gb404, 2, none⟩ = some (.int .i64 a0_2) := (blk_cell BK404.out 2).trans rfl
 have hfs13 := blk_frozen BK404.out 2
 have hns13_1 := NB405_404.out
 have hms13_1 := NB404_405.out
 refine skip_ (w1 := ?_) (by rfl) rfl ?_ ?_
 rotate_left
 ·go_simp
  rfl
 refine hK.out _ _ ?_
 clear hK K
 refine last_ (i := 5) (N := none) #[true, true, true, true, true, true] rfl rfl (by kernel_rfl) (by decide) (fun K hK => ?_)
 have hs14 : w10.cell? ⟨gb405, 0, none⟩ = some (.bool a1_0) := (blk_cell BK405.out 0).trans rfl
 have hfs14 := blk_frozen BK405.out 0
 have hns14_0 := NB404_405.out
 have hms14_0 := NB405_404.out
 have hs15 : w10.cell? ⟨gb405, 1, none⟩ = some (.int .i64 a1_1) := (blk_cell BK405.out 1).trans rfl
 have hfs15 := blk_frozen BK405.out 1
 have hns15_0 := NB404_405.out
 have hms15_0 := NB405_404.out
 have hs16 : w10.cell? ⟨gb405, 2, none⟩ = some (.int .i64 a1_2) := (blk_cell BK405.out 2).trans rfl
 have hfs16 := blk_frozen BK405.out 2
 have hns16_0 := NB404_405.out
 have hms16_0 := NB405_404.out
 refine skip_ (w1 := ?_) (by rfl) rfl ?_ ?_
 rotate_left
 ·go_simp
  rfl
 refine hK.out _ _ ?_
 clear hK K
 refine done_ (by kernel_rfl) ?_
 go_upto_region 2 with (fail)
 go_cut [24] (fun v24 wc => ∃ (kq : Nat) (x24_4 : Bool), v24 = .bool x24_4 ∧ Aside0 (impl_GapTo.j0 kq x24_4 t406 t407 t408 t409 t410 t411 = some (r1, r2)) ∧ Aside0 (kq ≤ k) ∧ Aside0 (wc.heap[gb404]? = some (.cells #[.bool t406, .int .i64 t407, .int .i64 t408] 29 (0, 0))) ∧ Aside0 (wc.heap[gb405]? = some (.cells #[.bool t409, .int .i64 t410, .int .i64 t411] 29 (0, 0))) ∧ Aside0 (Below w.heap.size w wc))
 case first =>
  have H := HC5.out
  clear HC5
  by_cases c17 : (t406 != t409) = true
  ·rw [if_pos c17] at H
   have c17b0 : (t406 != t409) = true := c17
   (try (have c17b1 : decide (t406 = t409) = false := by simpa using c17))
   (try (have c17b2 : (t406 == t409) = false := by simpa using c17))
   (try (have c17b3 : ¬ (t406 = t409) := by simpa using c17))
   clear c17
   (first | rw [c17b0] | (simp only [i64_w, i32_w]; rw [c17b0]) | skip)
   have H' := Aside0.mk H
   clear H
   have hnb18 := NB404_405.out
   have hnc18 := NB405_404.out
   obtain ⟨hcz19_0, hcz19_1, hcz19_2, hfz19_0, hfz19_1, hfz19_2⟩ := bc3_ BK404.out
   obtain ⟨hcz20_0, hcz20_1, hcz20_2, hfz20_0, hfz20_1, hfz20_2⟩ := bc3_ BK405.out
   go_wp2
   go_meet
   case rel => exact ⟨_, (true), (by first | rfl | (simp; done) | (simp [*]; done)), H', ⟨by first | omega | exact Nat.le_refl _⟩, ⟨by refine bk_ ?_; refine blk_far ?_ NB404_405.out _; refine bk_ ?_; refine blk_far ?_ NB404_405.out _; refine bk_ ?_; refine blk_far ?_ NB404_405.out _; refine bk_ ?_; refine blk_put (cs := #[.bool t406, .int .i64 t407, .int .i64 a0_2]) ?_ 2 _ rfl; refine bk_ ?_; refine blk_put (cs := #[.bool t406, .int .i64 a0_1, .int .i64 a0_2]) ?_ 1 _ rfl; refine bk_ ?_; refine blk_put (cs := #[.bool a0_0, .int .i64 a0_1, .int .i64 a0_2]) ?_ 0 _ rfl; refine bk_ ?_; exact BK404.out⟩, ⟨by refine bk_ ?_; refine blk_put (cs := #[.bool t409, .int .i64 t410, .int .i64 a1_2]) ?_ 2 _ rfl; refine bk_ ?_; refine blk_put (cs := #[.bool t409, .int .i64 a1_1, .int .i64 a1_2]) ?_ 1 _ rfl; refine bk_ ?_; refine blk_put (cs := #[.bool a1_0, .int .i64 a1_1, .int .i64 a1_2]) ?_ 0 _ rfl; refine bk_ ?_; refine blk_far ?_ NB405_404.out _; refine bk_ ?_; refine blk_far ?_ NB405_404.out _; refine bk_ ?_; refine blk_far ?_ NB405_404.out _; refine bk_ ?_; exact BK405.out⟩, ⟨hd_ HB.out GE404.out GE405.out⟩⟩
  ·rw [if_neg c17] at H
   have c17b0 : (t406 != t409) = false := by simpa using c17
   (try (have c17b1 : decide (t406 = t409) = true := by simpa using c17))
   (try (have c17b2 : (t406 == t409) = true := by simpa using c17))
   clear c17
   (first | rw [c17b0] | (simp only [i64_w, i32_w]; rw [c17b0]) | skip)
   replace H := Option.bind_eq_some_iff.mp H
   obtain ⟨t412, A210, H⟩ := H
   replace H : (impl_GapTo.j0 k (decide (t412 < 0)) t406 t407 t408 t409 t410 t411) = some (r1, r2) := H
   have A21 := Aside0.mk A210
   clear A210
   have H' := Aside0.mk H
   clear H
   have hnb22 := NB404_405.out
   have hnc22 := NB405_404.out
   obtain ⟨hcz23_0, hcz23_1, hcz23_2, hfz23_0, hfz23_1, hfz23_2⟩ := bc3_ BK404.out
   obtain ⟨hcz24_0, hcz24_1, hcz24_2, hfz24_0, hfz24_1, hfz24_2⟩ := bc3_ BK405.out
   go_wp2_with (first | (go_at_call 86; (with_reducible refine (impl_CmpAddr.calls k t409 t410 t411 t406 t407 t408 t412 _ A21.out).mono ?_); rintro e w25 ⟨rfl, hb⟩; have n0_ := Aside0.mk (blk_below (g := gb404) (o := .cells #[.bool t406, .int .i64 t407, .int .i64 t408] 29 (0, 0)) (by refine bk_ ?_; refine blk_far ?_ NB404_405.out _; refine bk_ ?_; refine blk_far ?_ NB404_405.out _; refine bk_ ?_; refine blk_far ?_ NB404_405.out _; refine bk_ ?_; refine blk_put (cs := #[.bool t406, .int .i64 t407, .int .i64 a0_2]) ?_ 2 _ rfl; refine bk_ ?_; refine blk_put (cs := #[.bool t406, .int .i64 a0_1, .int .i64 a0_2]) ?_ 1 _ rfl; refine bk_ ?_; refine blk_put (cs := #[.bool a0_0, .int .i64 a0_1, .int .i64 a0_2]) ?_ 0 _ rfl; refine bk_ ?_; exact BK404.out) hb); have n1_ := Aside0.mk (blk_below (g := gb405) (o := .cells #[.bool t409, .int .i64 t410, .int .i64 t411] 29 (0, 0)) (by refine bk_ ?_; refine blk_put (cs := #[.bool t409, .int .i64 t410, .int .i64 a1_2]) ?_ 2 _ rfl; refine bk_ ?_; refine blk_put (cs := #[.bool t409, .int .i64 a1_1, .int .i64 a1_2]) ?_ 1 _ rfl; refine bk_ ?_; refine blk_put (cs := #[.bool a1_0, .int .i64 a1_1, .int .i64 a1_2]) ?_ 0 _ rfl; refine bk_ ?_; refine blk_far ?_ NB405_404.out _; refine bk_ ?_; refine blk_far ?_ NB405_404.out _; refine bk_ ?_; refine blk_far ?_ NB405_404.out _; refine bk_ ?_; exact BK405.out) hb); have n2_ := Aside0.mk (below_step (hd_ HB.out GE404.out GE405.out) hb); clear BK404; clear BK405; clear HB; have BK404 := n0_; have BK405 := n1_; have HB := n2_; clear n0_ n1_ n2_; (try clear hb); (try clear hb2); (try clear hk); (try clear hi)))
   go_meet
   case rel => exact ⟨_, (decide (t412 < 0)), (by first | rfl | (simp; done) | (simp [*]; done)), H', ⟨by first | omega | exact Nat.le_refl _⟩, ⟨by refine bk_ ?_; exact BK404.out⟩, ⟨by refine bk_ ?_; exact BK405.out⟩, ⟨hd_ HB.out GE404.out GE405.out⟩⟩
 case rest =>
  clear HC5
  try clear c1
  try clear c2
  try clear p2
  try clear c10
  try clear c17
  try clear c17b0
  try clear c17b1
  try clear c17b2
  try clear c18
  try clear c22
  try clear hcz19_0
  try clear hcz19_1
  try clear hcz19_2
  try clear hcz20_0
  try clear hcz20_1
  try clear hcz20_2
  try clear hcz23_0
  try clear hcz23_1
  try clear hcz23_2
  try clear hcz24_0
  try clear hcz24_1
  try clear hcz24_2
  try clear hfz19_0
  try clear hfz19_1
  try clear hfz19_2
  try clear hfz20_0
  try clear hfz20_1
  try clear hfz20_2
  try clear hfz23_0
  try clear hfz23_1
  try clear hfz23_2
  try clear hfz24_0
  try clear hfz24_1
  try clear hfz24_2
  obtain ⟨kq, x24_4, rfl, HA, HJ4, BK404, BK405, HB⟩ := hcut
  cases kq with
  | zero => exact absurd HA.out (by simp [impl_GapTo.j0])
  | succ kj4 =>
   have H := HA.out
   clear HA
   simp only [impl_GapTo.j0] at H
   by_cases c26 : x24_4 = true
   ·subst c26
    have H1 : (some (0, false)) = some (r1, r2) := by rw [if_pos rfl] at H; exact H
    clear H
    have H := H1
    clear H1
    simp only [Option.some.injEq, Prod.mk.injEq] at H
    obtain ⟨rfl, rfl⟩ := H
    go_wp2
    go_ret2
    exact ⟨pe_, hd_ HB.out GE404.out GE405.out⟩
   ·replace c26 := Bool.eq_false_iff.mpr c26
    subst c26
    have H1 : (if (sub64s (IntKind.u64.wrap (t410)) (IntKind.u64.wrap (t407)) (sub64c (IntKind.u64.wrap (t411)) (IntKind.u64.wrap (t408)) 0)) = 0 then (if (wrap64 (sub64s (IntKind.u64.wrap (t411)) (IntKind.u64.wrap (t408)) 0)) < 0 then (some (0, false)) else (some (wrap64 (sub64s (IntKind.u64.wrap (t411)) (IntKind.u64.wrap (t408)) 0), true))) else (some (0, false))) = some (r1, r2) := by rw [if_neg (show ¬ (false = true) by decide)] at H; exact H
    clear H
    have H := H1
    clear H1
    have hcarry27 := sub64_run (IntKind.u64.wrap (t411)) (IntKind.u64.wrap (t408)) 0 (by first | decide | exact u64w_nn _) (by first | decide | exact u64w_nn _) (by first | decide | exact sub64c_nn _ _) (by first | decide | exact sub64c_le _ _)
    have hcarry28 := sub64_run (IntKind.u64.wrap (t410)) (IntKind.u64.wrap (t407)) (sub64c (IntKind.u64.wrap (t411)) (IntKind.u64.wrap (t408)) 0) (by first | decide | exact u64w_nn _) (by first | decide | exact u64w_nn _) (by first | decide | exact sub64c_nn _ _) (by first | decide | exact sub64c_le _ _)
    by_cases c29 : (sub64s (IntKind.u64.wrap (t410)) (IntKind.u64.wrap (t407)) (sub64c (IntKind.u64.wrap (t411)) (IntKind.u64.wrap (t408)) 0)) = 0
    ·rw [if_pos c29] at H
     have c29b0 : ((sub64s (IntKind.u64.wrap (t410)) (IntKind.u64.wrap (t407)) (sub64c (IntKind.u64.wrap (t411)) (IntKind.u64.wrap (t408)) 0)) == 0) = true := beq_iff_eq.mpr c29
     have c29b1 : ((sub64s (IntKind.u64.wrap (t410)) (IntKind.u64.wrap (t407)) (sub64c (IntKind.u64.wrap (t411)) (IntKind.u64.wrap (t408)) 0)) != 0) = false := bne_eq_false_iff_eq.mpr c29
     clear c29
     by_cases c30 : (wrap64 (sub64s (IntKind.u64.wrap (t411)) (IntKind.u64.wrap (t408)) 0)) < 0
     ·rw [if_pos c30] at H
      have c30b0 : decide ((wrap64 (sub64s (IntKind.u64.wrap (t411)) (IntKind.u64.wrap (t408)) 0)) < 0) = true := decide_eq_true c30
      clear c30
      simp only [Option.some.injEq, Prod.mk.injEq] at H
      obtain ⟨rfl, rfl⟩ := H
      have hnb31 := NB405_404.out
      have hnc31 := NB404_405.out
      obtain ⟨hcz32_0, hcz32_1, hcz32_2, hfz32_0, hfz32_1, hfz32_2⟩ := bc3_ BK405.out
      obtain ⟨hcz33_0, hcz33_1, hcz33_2, hfz33_0, hfz33_1, hfz33_2⟩ := bc3_ BK404.out
      go_wp2
      go_ret2
      exact ⟨pe_, hd_ HB.out GE404.out GE405.out⟩
     ·rw [if_neg c30] at H
      have c30b0 : decide ((wrap64 (sub64s (IntKind.u64.wrap (t411)) (IntKind.u64.wrap (t408)) 0)) < 0) = false := decide_eq_false c30
      clear c30
      simp only [Option.some.injEq, Prod.mk.injEq] at H
      obtain ⟨rfl, rfl⟩ := H
      have hnb34 := NB405_404.out
      have hnc34 := NB404_405.out
      obtain ⟨hcz35_0, hcz35_1, hcz35_2, hfz35_0, hfz35_1, hfz35_2⟩ := bc3_ BK405.out
      obtain ⟨hcz36_0, hcz36_1, hcz36_2, hfz36_0, hfz36_1, hfz36_2⟩ := bc3_ BK404.out
      go_wp2
      go_ret2
      exact ⟨pe_, hd_ HB.out GE404.out GE405.out⟩
    ·rw [if_neg c29] at H
     have c29b0 : ((sub64s (IntKind.u64.wrap (t410)) (IntKind.u64.wrap (t407)) (sub64c (IntKind.u64.wrap (t411)) (IntKind.u64.wrap (t408)) 0)) == 0) = false := beq_eq_false_iff_ne.mpr c29
     have c29b1 : ((sub64s (IntKind.u64.wrap (t410)) (IntKind.u64.wrap (t407)) (sub64c (IntKind.u64.wrap (t411)) (IntKind.u64.wrap (t408)) 0)) != 0) = true := bne_iff_ne.mpr c29
     simp only [Option.some.injEq, Prod.mk.injEq] at H
     obtain ⟨rfl, rfl⟩ := H
     have hnb37 := NB405_404.out
     have hnc37 := NB404_405.out
     obtain ⟨hcz38_0, hcz38_1, hcz38_2, hfz38_0, hfz38_1, hfz38_2⟩ := bc3_ BK405.out
     obtain ⟨hcz39_0, hcz39_1, hcz39_2, hfz39_0, hfz39_1, hfz39_2⟩ := bc3_ BK404.out
     go_wp2
     go_ret2
     exact ⟨pe_, hd_ HB.out GE404.out GE405.out⟩

/-! ### impl_PlaceOf: function 48 -/
def impl_PlaceOf.f (k : Nat) (a0_0 : Bool) (a0_1 : Int) (a0_2 : Int) (a0_3 : Int) (a1_0 : Bool) (a1_1 : Int) (a1_2 : Int) : Option (Int × Bool) := (impl_HasAddr.f a0_0 a0_1 a0_2 a0_3 a1_0 a1_1 a1_2).bind fun t415 => (if t415 = true then ((impl_GapTo.f k a0_0 a0_1 a0_2 a1_0 a1_1 a1_2).bind fun bt416 => (some (bt416.1, bt416.2))) else (some (0, false)))
theorem impl_PlaceOf.mono : ∀ a0 a1 a2 a3 a4 a5 a6 k, LeO (impl_PlaceOf.f k a0 a1 a2 a3 a4 a5 a6) (impl_PlaceOf.f (k + 1) a0 a1 a2 a3 a4 a5 a6) := by
 intro a0 a1 a2 a3 a4 a5 a6 k
 unfold impl_PlaceOf.f
 repeat' first
   | (with_reducible exact impl_GapTo.mono _ _ _ _ _ _ _)
   | (with_reducible exact LeO.refl _)
   | (with_reducible exact LeO.none _)
   | (with_reducible refine LeO.ite ?_ ?_)
   | (with_reducible refine LeO.bind ?_ (fun _ => ?_))
   | exact impl_GapTo.mono _ _ _ _ _ _ _
   | exact LeO.none _
   | refine LeO.ite ?_ ?_
   | refine LeO.bind ?_ (fun _ => ?_)
set_option maxHeartbeats 8000000 in
set_option maxRecDepth 100000 in
theorem impl_PlaceOf.calls (k : Nat) (a0_0 : Bool) (a0_1 : Int) (a0_2 : Int) (a0_3 : Int) (a1_0 : Bool) (a1_1 : Int) (a1_2 : Int) (r1 : Int) (r2 : Bool) (w : World) (h : impl_PlaceOf.f k a0_0 a0_1 a0_2 a0_3 a1_0 a1_1 a1_2 = some (r1, r2)) :
  Calls Try.prog 48 #[.agg #[.bool a0_0, .int .i64 a0_1, .int .i64 a0_2, .int .i64 a0_3], .agg #[.bool a1_0, .int .i64 a1_1, .int .i64 a1_2]] w fun e w' => e = .returned (.tuple #[.int .i64 r1, .bool r2]) ∧ Below w.heap.size w w' := by
 have hu31 := Try.underlying31
 have hu29 := Try.underlying29
 have HB := Aside0.mk (Below.refl w.heap.size w)
 have H : ((impl_HasAddr.f a0_0 a0_1 a0_2 a0_3 a1_0 a1_1 a1_2).bind fun t415 => (if t415 = true then ((impl_GapTo.f k a0_0 a0_1 a0_2 a1_0 a1_1 a1_2).bind fun bt416 => (some (bt416.1, bt416.2))) else (some (0, false)))) = some (r1, r2) := h
 clear h
 replace H := Option.bind_eq_some_iff.mp H
 obtain ⟨t415, A30, H⟩ := H
 replace H : (if t415 = true then ((impl_GapTo.f k a0_0 a0_1 a0_2 a1_0 a1_1 a1_2).bind fun bt416 => (some (bt416.1, bt416.2))) else (some (0, false))) = some (r1, r2) := H
 have A3 := Aside0.mk A30
 clear A30
 by_cases c4 : t415 = true
 ·subst c4
  have H1 : ((impl_GapTo.f k a0_0 a0_1 a0_2 a1_0 a1_1 a1_2).bind fun bt416 => (some (bt416.1, bt416.2))) = some (r1, r2) := by rw [if_pos rfl] at H; exact H
  clear H
  have H := H1
  clear H1
  replace H := Option.bind_eq_some_iff.mp H
  obtain ⟨⟨t416, t417⟩, A50, H⟩ := H
  replace H : (some (t416, t417)) = some (r1, r2) := H
  have A5 := Aside0.mk A50
  clear A50
  simp only [Option.some.injEq, Prod.mk.injEq] at H
  obtain ⟨rfl, rfl⟩ := H
  go_enter Try.func48, Try.ntmps48
  go_wp2_with (first | ((with_reducible refine gate_dst (N := 2) rfl ?_); refine box_event ?hg (N := 2) ?hd (cs := #[.bool a0_0, .int .i64 a0_1, .int .i64 a0_2, .int .i64 a0_3]) (t := 31) ?hr ?_; (case hd => rfl); (case hg => rfl); (case hr => first | (go_simp; done) | (go_simp; rfl)); intro gb413 hg w6 hbox hb; have n0_ := Aside0.mk (below_step (hb_ HB.out) hb); have n1_ := Aside0.mk (hbox); have n2_ := bg_ hg (below_size (hb_ HB.out)); have n3_ := bg_ hg (below_size (hb_ HB.out)); clear HB; have HB := n0_; have BK413 := n1_; have GW413 := n2_; have GE413 := n3_; clear n0_ n1_ n2_ n3_; clear hb hbox hg) | ((with_reducible refine gate_dst (N := 3) rfl ?_); refine box_event ?hg (N := 3) ?hd (cs := #[.bool a1_0, .int .i64 a1_1, .int .i64 a1_2]) (t := 29) ?hr ?_; (case hd => rfl); (case hg => rfl); (case hr => first | (go_simp; done) | (go_simp; rfl)); intro gb414 hg w7 hbox hb; have n0_ := Aside0.mk (blk_below (bk_ BK413.out) hb); have n1_ := Aside0.mk (below_step (hc_ HB.out GE413.out) hb); have n2_ := Aside0.mk (hbox); have n3_ := bg_ hg (below_size (hc_ HB.out GE413.out)); have n4_ := bg_ hg (below_size (hc_ HB.out GE413.out)); have n5_ := bn_ hg (blk_lt (bk_ BK413.out)); have n6_ := bm_ hg (blk_lt (bk_ BK413.out)); clear BK413; clear HB; have BK413 := n0_; have HB := n1_; have BK414 := n2_; have GW414 := n3_; have GE414 := n4_; have NB413_414 := n5_; have NB414_413 := n6_; clear n0_ n1_ n2_ n3_ n4_ n5_ n6_; clear hb hbox hg; have hnb8 := NB413_414.out; have hnc8 := NB414_413.out; obtain ⟨hcz9_0, hcz9_1, hcz9_2, hcz9_3, hfz9_0, hfz9_1, hfz9_2, hfz9_3⟩ := bc4_ BK413.out; obtain ⟨hcz10_0, hcz10_1, hcz10_2, hfz10_0, hfz10_1, hfz10_2⟩ := bc3_ BK414.out) | ((with_reducible refine gate_callee (f := 100) rfl ?_); refine goesL_ (some 8) rfl rfl Try.func100 (by kernel_rfl) rfl #[.agg #[.bool a0_0, .int .i64 a0_1, .int .i64 a0_2, .int .i64 a0_3], .agg #[.bool a1_0, .int .i64 a1_1, .int .i64 a1_2]] rfl al_ ?_; (with_reducible refine (impl_HasAddr.calls a0_0 a0_1 a0_2 a0_3 a1_0 a1_1 a1_2 true _ A3.out).mono ?_); rintro e w11 ⟨rfl, hb⟩; refine ⟨_, rfl, ?_⟩; have n0_ := Aside0.mk (blk_below (bk_ BK413.out) hb); have n1_ := Aside0.mk (blk_below (bk_ BK414.out) hb); have n2_ := Aside0.mk (below_step (hd_ HB.out GE413.out GE414.out) hb); clear BK413; clear BK414; clear HB; have BK413 := n0_; have BK414 := n1_; have HB := n2_; clear n0_ n1_ n2_; (try clear hb); (try clear hb2); (try clear hk); (try clear hi); obtain ⟨hcz12_0, hcz12_1, hcz12_2, hcz12_3, hfz12_0, hfz12_1, hfz12_2, hfz12_3⟩ := bc4_ BK413.out; obtain ⟨hcz13_0, hcz13_1, hcz13_2, hfz13_0, hfz13_1, hfz13_2⟩ := bc3_ BK414.out) | ((with_reducible refine gate_callee (f := 107) rfl ?_); refine goesL_ (some 13) rfl rfl Try.func107 (by kernel_rfl) rfl #[.agg #[.bool a0_0, .int .i64 a0_1, .int .i64 a0_2], .agg #[.bool a1_0, .int .i64 a1_1, .int .i64 a1_2]] rfl al_ ?_; (with_reducible refine (impl_GapTo.calls k a0_0 a0_1 a0_2 a1_0 a1_1 a1_2 t416 t417 _ A5.out).mono ?_); rintro e w14 ⟨rfl, hb⟩; refine ⟨_, rfl, ?_⟩; have n0_ := Aside0.mk (blk_below (bk_ BK413.out) hb); have n1_ := Aside0.mk (blk_below (bk_ BK414.out) hb); have n2_ := Aside0.mk (below_step (hd_ HB.out GE413.out GE414.out) hb); clear BK413; clear BK414; clear HB; have BK413 := n0_; have BK414 := n1_; have HB := n2_; clear n0_ n1_ n2_; (try clear hb); (try clear hb2); (try clear hk); (try clear hi)))
  go_ret2
  exact ⟨pe_, hd_ HB.out GE413.out GE414.out⟩
 ·replace c4 := Bool.eq_false_iff.mpr c4
  subst c4
  have H1 : (some (0, false)) = some (r1, r2) := by rw [if_neg (show ¬ (false = true) by decide)] at H; exact H
  clear H
  have H := H1
  clear H1
  simp only [Option.some.injEq, Prod.mk.injEq] at H
  obtain ⟨rfl, rfl⟩ := H
  go_enter Try.func48, Try.ntmps48
  go_wp2_with (first | ((with_reducible refine gate_dst (N := 2) rfl ?_); refine box_event ?hg (N := 2) ?hd (cs := #[.bool a0_0, .int .i64 a0_1, .int .i64 a0_2, .int .i64 a0_3]) (t := 31) ?hr ?_; (case hd => rfl); (case hg => rfl); (case hr => first | (go_simp; done) | (go_simp; rfl)); intro gb413 hg w15 hbox hb; have n0_ := Aside0.mk (below_step (hb_ HB.out) hb); have n1_ := Aside0.mk (hbox); have n2_ := bg_ hg (below_size (hb_ HB.out)); have n3_ := bg_ hg (below_size (hb_ HB.out)); clear HB; have HB := n0_; have BK413 := n1_; have GW413 := n2_; have GE413 := n3_; clear n0_ n1_ n2_ n3_; clear hb hbox hg) | ((with_reducible refine gate_dst (N := 3) rfl ?_); refine box_event ?hg (N := 3) ?hd (cs := #[.bool a1_0, .int .i64 a1_1, .int .i64 a1_2]) (t := 29) ?hr ?_; (case hd => rfl); (case hg => rfl); (case hr => first | (go_simp; done) | (go_simp; rfl)); intro gb414 hg w16 hbox hb; have n0_ := Aside0.mk (blk_below (bk_ BK413.out) hb); have n1_ := Aside0.mk (below_step (hc_ HB.out GE413.out) hb); have n2_ := Aside0.mk (hbox); have n3_ := bg_ hg (below_size (hc_ HB.out GE413.out)); have n4_ := bg_ hg (below_size (hc_ HB.out GE413.out)); have n5_ := bn_ hg (blk_lt (bk_ BK413.out)); have n6_ := bm_ hg (blk_lt (bk_ BK413.out)); clear BK413; clear HB; have BK413 := n0_; have HB := n1_; have BK414 := n2_; have GW414 := n3_; have GE414 := n4_; have NB413_414 := n5_; have NB414_413 := n6_; clear n0_ n1_ n2_ n3_ n4_ n5_ n6_; clear hb hbox hg; have hnb17 := NB413_414.out; have hnc17 := NB414_413.out; obtain ⟨hcz18_0, hcz18_1, hcz18_2, hcz18_3, hfz18_0, hfz18_1, hfz18_2, hfz18_3⟩ := bc4_ BK413.out; obtain ⟨hcz19_0, hcz19_1, hcz19_2, hfz19_0, hfz19_1, hfz19_2⟩ := bc3_ BK414.out) | ((with_reducible refine gate_callee (f := 100) rfl ?_); refine goesL_ (some 8) rfl rfl Try.func100 (by kernel_rfl) rfl #[.agg #[.bool a0_0, .int .i64 a0_1, .int .i64 a0_2, .int .i64 a0_3], .agg #[.bool a1_0, .int .i64 a1_1, .int .i64 a1_2]] rfl al_ ?_; (with_reducible refine (impl_HasAddr.calls a0_0 a0_1 a0_2 a0_3 a1_0 a1_1 a1_2 false _ A3.out).mono ?_); rintro e w20 ⟨rfl, hb⟩; refine ⟨_, rfl, ?_⟩; have n0_ := Aside0.mk (blk_below (bk_ BK413.out) hb); have n1_ := Aside0.mk (blk_below (bk_ BK414.out) hb); have n2_ := Aside0.mk (below_step (hd_ HB.out GE413.out GE414.out) hb); clear BK413; clear BK414; clear HB; have BK413 := n0_; have BK414 := n1_; have HB := n2_; clear n0_ n1_ n2_; (try clear hb); (try clear hb2); (try clear hk); (try clear hi)))
  go_ret2
  exact ⟨pe_, hd_ HB.out GE413.out GE414.out⟩

end Go.Proofs.Ythakdhdoeejkmaa.QFnFirstAddr
