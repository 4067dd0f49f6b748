-- Written by a program of this session (wip/myprint.py); Lean checks it.
import Derived.Test.YthakdhdoeejkmaaQFnFirstAddrx0
import Derived.Test.YthakdhdoeejkmaaQFnFirstAddrx3
import Derived.Test.YthakdhdoeejkmaaQFnFirstAddrx11
import Derived.Test.YthakdhdoeejkmaaQFnFirstAddrx12
namespace Go.Proofs.Ythakdhdoeejkmaa.QFnFirstAddr
open Go.RowKit Go.Proofs.YthakdhdoeejkmaaW.PrintWords Go.Proofs.YthakdhdoeejkmaaW.PrintLast Go.Proofs.YthakdhdoeejkmaaW.PrintMore
open Act (put)
open List (setIfInBounds_toArray set_cons_zero set_cons_succ)
attribute [local go_sem] max2_int min2_int max_two min_two max_three min_three max_four min_four   -- for this text's walks alone
set_option linter.unusedVariables false
set_option linter.unusedSimpArgs false

attribute [local go_sem] isSome_setCell
/-! ### spec_DrawFirstAddr: function 47 -/
def spec_DrawFirstAddr.l0 : Nat → List (S29) → Int → List Int → Int → Int → Bool → Int → Int → Int → Option (Bool × Int × Int × Int × (List (S29)))
 | 0, _, _, _, _, _, _, _, _, _ => none
 | k + 1, x6, x7, x374000, x374001, x374002, x381000, x381001, x381002, x381003 => if x7 > 0 then ((spec_l1Below.f x374000 x374001 x374002 8).bind fun bt393 => ((spec_AddTo.f x381000 x381001 x381002 bt393.1).bind fun bt396 => (if bt396.2.2.2 = true then (if x6.length < 5864062014805 then (spec_DrawFirstAddr.l0 k (x6 ++ [(⟨bt396.1, bt396.2.1, bt396.2.2.1⟩ : S29)]) (wrap64 (x7 - 1)) x374000 bt393.2.1 bt393.2.2 x381000 x381001 x381002 x381003) else (none)) else (spec_DrawFirstAddr.l0 k x6 (wrap64 (x7 - 1)) x374000 bt393.2.1 bt393.2.2 x381000 x381001 x381002 x381003)))) else ((spec_l1Once.f x374000 x374001 x374002 40).bind fun bt387 => (if bt387.1 = true then (if 301 ≤ 11728124029610 then (some (x381000, x381001, x381002, x381003, (List.replicate 301 z29))) else (none)) else (some (x381000, x381001, x381002, x381003, x6))))
def spec_DrawFirstAddr.f (k : Nat) (l0 : List Int) : Option (Bool × Int × Int × Int × (List (S29))) := (spec_l1New.f k l0).bind fun bt370 => ((spec_l2DrawAny.f bt370.1 bt370.2.1 bt370.2.2).bind fun bt374 => ((spec_l1Below.f bt370.1 bt374.2.2.2.2.1 bt374.2.2.2.2.2 10).bind fun bt384 => (spec_DrawFirstAddr.l0 k (([] : List (S29))) bt384.1 bt370.1 bt384.2.1 bt384.2.2 bt374.1 bt374.2.1 bt374.2.2.1 bt374.2.2.2.1)))
theorem spec_DrawFirstAddr.mono_l : ∀ k, (∀ y0 y1 y2 y3 y4 y5 y6 y7 y8, LeO (spec_DrawFirstAddr.l0 k y0 y1 y2 y3 y4 y5 y6 y7 y8) (spec_DrawFirstAddr.l0 (k + 1) y0 y1 y2 y3 y4 y5 y6 y7 y8))
 | 0 => fun _ _ _ _ _ _ _ _ _ r h => by simp [spec_DrawFirstAddr.l0] at h
 | k + 1 => by
  have ih0 := spec_DrawFirstAddr.mono_l k
  ·intro y0 y1 y2 y3 y4 y5 y6 y7 y8
   unfold spec_DrawFirstAddr.l0
   repeat' first
   | (with_reducible exact ih0 _ _ _ _ _ _ _ _ _)
   | (with_reducible exact spec_l1New.mono _ _)
   | (with_reducible exact LeO.refl _)
   | (with_reducible exact LeO.none _)
   | (with_reducible refine LeO.ite ?_ ?_)
   | (with_reducible refine LeO.bind ?_ (fun _ => ?_))
   | exact ih0 _ _ _ _ _ _ _ _ _
   | exact spec_l1New.mono _ _
   | exact LeO.none _
   | refine LeO.ite ?_ ?_
   | refine LeO.bind ?_ (fun _ => ?_)
theorem spec_DrawFirstAddr.mono : ∀ a0 k, LeO (spec_DrawFirstAddr.f k a0) (spec_DrawFirstAddr.f (k + 1) a0) := by
 intro a0 k
 have ih0 := spec_DrawFirstAddr.mono_l k
 unfold spec_DrawFirstAddr.f
 repeat' first
   | (with_reducible exact ih0 _ _ _ _ _ _ _ _ _)
   | (with_reducible exact spec_l1New.mono _ _)
   | (with_reducible exact LeO.refl _)
   | (with_reducible exact LeO.none _)
   | (with_reducible refine LeO.ite ?_ ?_)
   | (with_reducible refine LeO.bind ?_ (fun _ => ?_))
   | exact ih0 _ _ _ _ _ _ _ _ _
   | exact spec_l1New.mono _ _
   | exact LeO.none _
   | refine LeO.ite ?_ ?_
   | refine LeO.bind ?_ (fun _ => ?_)
def spec_DrawFirstAddr.T7 : Bool × List (List Nat × List Nat) := (true, [([], []), ([0], [0]), ([], []), ([2], [2]), ([1, 3, 3], [1, 3]), ([4], [4]), ([5], [5]), ([5], [5]), ([], []), ([8, 6, 4, 0, 1, 2, 3, 4, 5, 6, 8], [6, 8]), ([7, 9, 0, 1, 2, 3, 4, 5, 6, 7, 8, 9], [7])])
def spec_DrawFirstAddr.B7 : List Nat := [0, 1, 0, 4, 15, 31, 63, 63, 0, 383, 1023]
theorem spec_DrawFirstAddr.tab7 : rtab .any (opsOf Try.f47 7) = spec_DrawFirstAddr.T7 := by kernel_rfl
theorem spec_DrawFirstAddr.bits7 : waitsOk spec_DrawFirstAddr.T7.2 spec_DrawFirstAddr.B7 = true := by kernel_rfl
set_option maxHeartbeats 8000000 in
set_option maxRecDepth 100000 in
theorem spec_DrawFirstAddr.calls (k : Nat) (A0 : Option Addr) (c0 : Nat) (l0 : List Int) (r1 : Bool) (r2 : Int) (r3 : Int) (r4 : Int) (r5 : List (S29)) (w : World) (hr0 : Kd.C (Kd.int .u8) w A0 l0.length l0) (hc0 : l0.length ≤ c0) (h : spec_DrawFirstAddr.f k l0 = some (r1, r2, r3, r4, r5)) :
  Calls Try.prog 47 #[.slice A0 l0.length c0] w fun e w' => ∃ v4_ : Value, e = .returned (.tuple #[.agg #[.bool r1, .int .i64 r2, .int .i64 r3, .int .i64 r4], v4_]) ∧ Kd.R k29 29 w' w.heap.size (fun _ => True) v4_ r5 ∧ Below w.heap.size w w' := by
 have hu31 := Try.underlying31
 have hu29 := Try.underlying29
 have HR0 := Aside0.mk hr0
 have HC0 := Aside0.mk hc0
 clear hr0 hc0
 have HB := Aside0.mk (Below.refl w.heap.size w)
 have H : ((spec_l1New.f k l0).bind fun bt370 => ((spec_l2DrawAny.f bt370.1 bt370.2.1 bt370.2.2).bind fun bt374 => ((spec_l1Below.f bt370.1 bt374.2.2.2.2.1 bt374.2.2.2.2.2 10).bind fun bt384 => (spec_DrawFirstAddr.l0 k (([] : List (S29))) bt384.1 bt370.1 bt384.2.1 bt384.2.2 bt374.1 bt374.2.1 bt374.2.2.1 bt374.2.2.2.1)))) = some (r1, r2, r3, r4, r5) := h
 clear h
 replace H := Option.bind_eq_some_iff.mp H
 obtain ⟨⟨t370, t371, t372⟩, A20, H⟩ := H
 replace H : ((spec_l2DrawAny.f t370 t371 t372).bind fun bt374 => ((spec_l1Below.f t370 bt374.2.2.2.2.1 bt374.2.2.2.2.2 10).bind fun bt384 => (spec_DrawFirstAddr.l0 k (([] : List (S29))) bt384.1 t370 bt384.2.1 bt384.2.2 bt374.1 bt374.2.1 bt374.2.2.1 bt374.2.2.2.1))) = some (r1, r2, r3, r4, r5) := H
 have A2 := Aside0.mk A20
 clear A20
 replace H := Option.bind_eq_some_iff.mp H
 obtain ⟨⟨t374, t375, t376, t377, t378, t379⟩, A30, H⟩ := H
 replace H : ((spec_l1Below.f t370 t378 t379 10).bind fun bt384 => (spec_DrawFirstAddr.l0 k (([] : List (S29))) bt384.1 t370 bt384.2.1 bt384.2.2 t374 t375 t376 t377)) = some (r1, r2, r3, r4, r5) := H
 have A3 := Aside0.mk A30
 clear A30
 obtain ⟨y381, hy381⟩ : ∃ y_ : List (S29), y_ = (([] : List (S29))) := ⟨_, rfl⟩
 replace H : ((spec_l1Below.f t370 t378 t379 10).bind fun bt384 => (spec_DrawFirstAddr.l0 k y381 bt384.1 t370 bt384.2.1 bt384.2.2 t374 t375 t376 t377)) = some (r1, r2, r3, r4, r5) := by first | (rw [hy381]; with_reducible exact H) | (have H2_ := (Option.bind_some _ _).symm.trans H; rw [hy381]; with_reducible exact H2_) | (have H2_ := (Option.bind_some _ _).symm.trans H; with_reducible exact H2_) | with_reducible exact H | (rw [hy381]; exact H) | exact H
 have Ny381 := Aside0.mk hy381
 clear hy381
 replace H := Option.bind_eq_some_iff.mp H
 obtain ⟨⟨t384, t385, t386⟩, A40, H⟩ := H
 replace H : (spec_DrawFirstAddr.l0 k y381 t384 t370 t385 t386 t374 t375 t376 t377) = some (r1, r2, r3, r4, r5) := H
 have A4 := Aside0.mk A40
 clear A40
 have H' := Aside0.mk H
 clear H
 go_enter Try.func47, Try.ntmps47
 go_wp2_with (first | ((with_reducible refine gate_dst (N := 2) rfl ?_); refine box_event ?hg (N := 2) ?hd (cs := #[.bool false, .int .i64 0, .int .i64 0, .int .i64 0]) (t := 31) ?hr ?_; (case hd => rfl); (case hg => rfl); (case hr => first | (go_simp; done) | (go_simp; rfl)); intro gb369 hg w5 hbox hb; have n0_ := Aside0.mk (below_step (hb_ HB.out) hb); have n1_ := Aside0.mk (hbox); have n2_ := bg_ hg (below_size (hb_ HB.out)); have n3_ := bg_ hg (below_size (hb_ HB.out)); clear HB; have HB := n0_; have BK369 := n1_; have GW369 := n2_; have GE369 := n3_; clear n0_ n1_ n2_ n3_; clear hb hbox hg) | ((with_reducible refine gate_callee (f := 87) rfl ?_); refine goesL_ (some 11) rfl rfl Try.func87 (by kernel_rfl) rfl #[.slice A0 l0.length c0] rfl al_ ?_; (with_reducible refine (spec_l1New.calls k _ _ l0 t370 t371 t372 w _ ?side1 ?side2 ?side3 A2.out).mono ?_); (case side1 => repeat (first | (with_reducible first | exact HB.out | apply below_alloc | apply pw_below_drewN | apply below_drew1 | refine below_set ?_ GE369.out) | exact HB.out)); (case side2 => exact HR0.out); (case side3 => exact HC0.out); rintro e w6 ⟨g373, rfl, hi, hb, hb2⟩; refine ⟨_, rfl, ?_⟩; have n0_ := Aside0.mk (blk_below (bk_ BK369.out) hb2); have n1_ := Aside0.mk (hb); have n2_ := Aside0.mk (hi); have n3_ := Aside0.mk (IsS159.ne_blk hi (blk_below (bk_ BK369.out) hb2) (by decide)); have n4_ := Aside0.mk (Ne.symm (IsS159.ne_blk hi (blk_below (bk_ BK369.out) hb2) (by decide))); clear BK369; clear HB; have BK369 := n0_; have HB := n1_; have HI373 := n2_; have NB373_369 := n3_; have NB369_373 := n4_; clear n0_ n1_ n2_ n3_ n4_; (try clear hb); (try clear hb2); (try clear hk); (try clear hi)) | ((with_reducible refine gate_callee (f := 88) rfl ?_); refine goesL_ (some 13) rfl rfl Try.func88 (by kernel_rfl) rfl #[.pointer (some ⟨g373, 0, none⟩)] rfl al_ ?_; (with_reducible refine (spec_l2DrawAny.calls g373 t370 t371 t372 t374 t375 t376 t377 t378 t379 w _ ?side1 ?side2 A3.out).mono ?_); (case side1 => repeat (first | (with_reducible first | exact HI373.out | apply IsS159.alloc | apply IsS159.drewN | apply IsS159.drew | apply IsS159.set_1 | apply IsS159.set_2 | refine IsS159.far ?_ NB373_369.out _) | exact HI373.out)); (case side2 => repeat (first | (with_reducible first | exact HB.out | apply below_alloc | apply pw_below_drewN | apply below_drew1 | refine below_set ?_ (IsS159.ge HI373.out) | refine below_set ?_ GE369.out) | exact HB.out)); rintro e w7 ⟨rfl, hi, hb, hk⟩; refine ⟨_, rfl, ?_⟩; have n0_ := Aside0.mk (KeepBut.blk hk (g' := gb369) (o := .cells #[.bool false, .int .i64 0, .int .i64 0, .int .i64 0] 31 (0, 0)) (bk_ BK369.out) NB369_373.out (by simp)); have n1_ := Aside0.mk (hb); have n2_ := Aside0.mk (hi); clear BK369; clear HB; clear HI373; have BK369 := n0_; have HB := n1_; have HI373 := n2_; clear n0_ n1_ n2_; (try clear hb); (try clear hb2); (try clear hk); (try clear hi)) | ((with_reducible refine gate_dst (N := 5) rfl ?_); refine box_event ?hg (N := 5) ?hd (cs := #[.bool false, .int .i64 0, .int .i64 0, .int .i64 0]) (t := 31) ?hr ?_; (case hd => rfl); (case hg => rfl); (case hr => first | (go_simp; done) | (go_simp; rfl)); intro gb380 hg w8 hbox hb; have n0_ := Aside0.mk (blk_below (bk_ BK369.out) hb); have n1_ := Aside0.mk (IsS159.below (by repeat (first | (with_reducible first | exact HI373.out | apply IsS159.alloc | apply IsS159.drewN | apply IsS159.drew | apply IsS159.set_1 | apply IsS159.set_2 | refine IsS159.far ?_ NB373_369.out _) | exact HI373.out)) hb); have n2_ := Aside0.mk (below_step (by repeat (first | (with_reducible first | exact HB.out | apply below_alloc | apply pw_below_drewN | apply below_drew1 | refine below_set ?_ (IsS159.ge HI373.out) | refine below_set ?_ GE369.out) | exact HB.out)) hb); have n3_ := Aside0.mk (hbox); have n4_ := Aside0.mk ((by rw [hg]; exact (below_size (by repeat (first | (with_reducible first | exact HB.out | apply below_alloc | apply pw_below_drewN | apply below_drew1 | refine below_set ?_ (IsS159.ge HI373.out) | refine below_set ?_ GE369.out) | exact HB.out))) : w.heap.size ≤ gb380)); have n5_ := Aside0.mk ((by rw [hg]; exact (below_size (by repeat (first | (with_reducible first | exact HB.out | apply below_alloc | apply pw_below_drewN | apply below_drew1 | refine below_set ?_ (IsS159.ge HI373.out) | refine below_set ?_ GE369.out) | exact HB.out))) : w.heap.size ≤ gb380)); have n6_ := bn_ hg (blk_lt (bk_ BK369.out)); have n7_ := bm_ hg (blk_lt (bk_ BK369.out)); have n8_ := Aside0.mk ((by rw [hg]; exact Nat.ne_of_lt (IsS159.lt (show IsS159 w _ g373 t370 t378 t379 from by repeat (first | (with_reducible first | exact HI373.out | apply IsS159.alloc | apply IsS159.drewN | apply IsS159.drew | apply IsS159.set_1 | apply IsS159.set_2 | refine IsS159.far ?_ NB373_369.out _) | exact HI373.out))) : g373 ≠ gb380)); have n9_ := Aside0.mk ((by rw [hg]; exact Nat.ne_of_gt (IsS159.lt (show IsS159 w _ g373 t370 t378 t379 from by repeat (first | (with_reducible first | exact HI373.out | apply IsS159.alloc | apply IsS159.drewN | apply IsS159.drew | apply IsS159.set_1 | apply IsS159.set_2 | refine IsS159.far ?_ NB373_369.out _) | exact HI373.out))) : gb380 ≠ g373)); clear BK369; clear HI373; clear HB; have BK369 := n0_; have HI373 := n1_; have HB := n2_; have BK380 := n3_; have GW380 := n4_; have GE380 := n5_; have NB369_380 := n6_; have NB380_369 := n7_; have NB373_380 := n8_; have NB380_373 := n9_; clear n0_ n1_ n2_ n3_ n4_ n5_ n6_ n7_ n8_ n9_; clear hb hbox hg; have hnb9 := NB380_369.out; have hnc9 := NB369_380.out; have hnb10 := NB380_373.out; have hnc10 := NB373_380.out; obtain ⟨hcz11_0, hcz11_1, hcz11_2, hcz11_3, hfz11_0, hfz11_1, hfz11_2, hfz11_3⟩ := bc4_ BK380.out) | ((with_reducible refine gate_dst (N := 14) rfl ?_); refine Kd.R_lit k29 _ 29 ?hg (N := 14) ?hd (xs := ([] : List (S29))) (inner := []) (ok := fun _ => True) (okp := fun _ => True) ?hr ?hp (fun _ hk => hk) trivial (Below.refl _ _) (Nat.le_refl _) (by simp) ?_; (case hd => rfl); (case hg => rfl); (case hr => first | (go_simp; done) | (go_simp; rfl)); (case hp => exact (Reps.none _ _)); intro v382 w12 ho13 hb hg_ hnew_; clear hg_ hnew_; (first | rw [← Ny381.out] at ho13 | (simp only [Int.reduceToNat] at ho13; rw [← Ny381.out] at ho13)); have n0_ := Aside0.mk (Kd.R_lower ho13 (below_size (by repeat (first | (with_reducible first | exact HB.out | apply below_alloc | apply pw_below_drewN | apply below_drew1 | refine below_set ?_ (IsS159.ge HI373.out) | refine below_set ?_ GE369.out | refine below_set ?_ GE380.out) | exact HB.out)))); have n1_ := Aside0.mk (blk_below (g := gb369) (o := .cells #[.bool false, .int .i64 0, .int .i64 0, .int .i64 0] 31 (0, 0)) (by refine bk_ ?_; refine blk_far ?_ NB369_380.out _; refine bk_ ?_; refine blk_far ?_ NB369_380.out _; refine bk_ ?_; refine blk_far ?_ NB369_380.out _; refine bk_ ?_; refine blk_far ?_ NB369_380.out _; refine bk_ ?_; exact BK369.out) hb); have n2_ := Aside0.mk (IsS159.below (show IsS159 w ((((w8.setCell ⟨gb380, 0, none⟩ (.bool t374)).setCell ⟨gb380, 1, none⟩ (.int .i64 t375)).setCell ⟨gb380, 2, none⟩ (.int .i64 t376)).setCell ⟨gb380, 3, none⟩ (.int .i64 t377)) g373 t370 t378 t379 from by repeat (first | (with_reducible first | exact HI373.out | apply IsS159.alloc | apply IsS159.drewN | apply IsS159.drew | apply IsS159.set_1 | apply IsS159.set_2 | refine IsS159.far ?_ NB373_369.out _ | refine IsS159.far ?_ NB373_380.out _) | exact HI373.out)) hb); have n3_ := Aside0.mk (blk_below (g := gb380) (o := .cells #[.bool t374, .int .i64 t375, .int .i64 t376, .int .i64 t377] 31 (0, 0)) (by refine bk_ ?_; refine blk_put (cs := #[.bool t374, .int .i64 t375, .int .i64 t376, .int .i64 0]) ?_ 3 _ rfl; refine bk_ ?_; refine blk_put (cs := #[.bool t374, .int .i64 t375, .int .i64 0, .int .i64 0]) ?_ 2 _ rfl; refine bk_ ?_; refine blk_put (cs := #[.bool t374, .int .i64 0, .int .i64 0, .int .i64 0]) ?_ 1 _ rfl; refine bk_ ?_; refine blk_put (cs := #[.bool false, .int .i64 0, .int .i64 0, .int .i64 0]) ?_ 0 _ rfl; refine bk_ ?_; exact BK380.out) hb); have n4_ := Aside0.mk (below_step (by repeat (first | (with_reducible first | exact HB.out | apply below_alloc | apply pw_below_drewN | apply below_drew1 | refine below_set ?_ (IsS159.ge HI373.out) | refine below_set ?_ GE369.out | refine below_set ?_ GE380.out) | exact HB.out)) hb); clear BK369; clear HI373; clear BK380; clear HB; have HO383 := n0_; have BK369 := n1_; have HI373 := n2_; have BK380 := n3_; have HB := n4_; clear n0_ n1_ n2_ n3_ n4_; clear hb ho13) | ((with_reducible refine gate_callee (f := 104) rfl ?_); refine goesL_ (some 16) rfl rfl Try.func104 (by kernel_rfl) rfl #[.pointer (some ⟨g373, 0, none⟩), .int .i64 10] rfl al_ ?_; (with_reducible refine (spec_l1Below.calls g373 t370 t378 t379 10 t384 t385 t386 w _ ?side1 ?side2 A4.out).mono ?_); (case side1 => repeat (first | (with_reducible first | exact HI373.out | apply IsS159.alloc | apply IsS159.drewN | apply IsS159.drew | apply IsS159.set_1 | apply IsS159.set_2 | refine IsS159.far ?_ NB373_369.out _ | refine IsS159.far ?_ NB373_380.out _) | exact HI373.out)); (case side2 => repeat (first | (with_reducible first | exact HB.out | apply below_alloc | apply pw_below_drewN | apply below_drew1 | refine below_set ?_ (IsS159.ge HI373.out) | refine below_set ?_ GE369.out | refine below_set ?_ GE380.out) | exact HB.out)); rintro e w14 ⟨rfl, hi, hb, hk⟩; refine ⟨_, rfl, ?_⟩; have n0_ := Aside0.mk (KeepBut.blk hk (g' := gb369) (o := .cells #[.bool false, .int .i64 0, .int .i64 0, .int .i64 0] 31 (0, 0)) (bk_ BK369.out) NB369_373.out (by simp)); have n1_ := Aside0.mk (KeepBut.blk hk (g' := gb380) (o := .cells #[.bool t374, .int .i64 t375, .int .i64 t376, .int .i64 t377] 31 (0, 0)) (bk_ BK380.out) NB380_373.out (by simp)); have n2_ := Aside0.mk (Kd.R_mono (Kd.R_keep (IsS159.apart (show IsS159 w _ g373 t370 t378 t379 from by repeat (first | (with_reducible first | exact HI373.out | apply IsS159.alloc | apply IsS159.drewN | apply IsS159.drew | apply IsS159.set_1 | apply IsS159.set_2 | refine IsS159.far ?_ NB373_369.out _ | refine IsS159.far ?_ NB373_380.out _) | exact HI373.out)) (by (with_reducible repeat (first | apply Kd.R_alloc | apply Kd.R_drewN | apply Kd.R_drew)); exact HO383.out) (by decide)) hk (fun _ h => h.2)) (fun _ h => h.1)); have n3_ := Aside0.mk (hb); have n4_ := Aside0.mk (hi); clear BK369; clear BK380; clear HO383; clear HB; clear HI373; have BK369 := n0_; have BK380 := n1_; have HO383 := n2_; have HB := n3_; have HI373 := n4_; clear n0_ n1_ n2_ n3_ n4_; (try clear hb); (try clear hb2); (try clear hk); (try clear hi)))
 go_loopg [6, 7] k (fun kq v6 v7 w' => ∃ (x6_1 : List (S29)) (x7_1 : Int) (x374001_1 : Int) (x374002_1 : Int), v7 = .int .i64 x7_1 ∧ Aside0 (spec_DrawFirstAddr.l0 kq x6_1 x7_1 t370 x374001_1 x374002_1 t374 t375 t376 t377 = some (r1, r2, r3, r4, r5)) ∧ Aside0 (kq ≤ k) ∧ Aside0 (Kd.R k29 29 w' w.heap.size (fun _ => True) v6 x6_1) ∧ Aside0 (w'.heap[gb369]? = some (.cells #[.bool false, .int .i64 0, .int .i64 0, .int .i64 0] 31 (0, 0))) ∧ Aside0 (w'.heap[gb380]? = some (.cells #[.bool t374, .int .i64 t375, .int .i64 t376, .int .i64 t377] 31 (0, 0))) ∧ Aside0 (IsS159 w w' g373 t370 x374001_1 x374002_1) ∧ Aside0 (Below w.heap.size w w'))
 case atStart => exact ⟨(y381), (t384), (t385), (t386), (by first | rfl | (simp; done) | (simp [*]; done)), H', ⟨Nat.le_refl _⟩, ⟨by (with_reducible repeat (first | apply Kd.R_alloc | apply Kd.R_drewN | apply Kd.R_drew)); exact HO383.out⟩, ⟨by refine bk_ ?_; exact BK369.out⟩, ⟨by refine bk_ ?_; exact BK380.out⟩, ⟨by repeat (first | (with_reducible first | exact HI373.out | apply IsS159.alloc | apply IsS159.drewN | apply IsS159.drew | apply IsS159.set_1 | apply IsS159.set_2 | refine IsS159.far ?_ NB373_369.out _ | refine IsS159.far ?_ NB373_380.out _) | exact HI373.out)⟩, ⟨by repeat (first | (with_reducible first | exact HB.out | apply below_alloc | apply pw_below_drewN | apply below_drew1 | refine below_set ?_ (IsS159.ge HI373.out) | refine below_set ?_ GE369.out | refine below_set ?_ GE380.out) | exact HB.out)⟩⟩
 case round =>
  clear H'
  try clear c1
  try clear p2
  try clear c4
  try clear c8
  try clear c9
  try clear c10
  try clear hcz11_0
  try clear hcz11_1
  try clear hcz11_2
  try clear hcz11_3
  try clear hfz11_0
  try clear hfz11_1
  try clear hfz11_2
  try clear hfz11_3
  obtain ⟨x6_1, x7_1, x374001_1, x374002_1, rfl, HA, HK1, HO_6, BK369, BK380, HI373, HB⟩ := hrel
  cases gk with
  | zero => exact absurd HA.out (by simp [spec_DrawFirstAddr.l0])
  | succ k1 =>
   have H := HA.out
   clear HA
   simp only [spec_DrawFirstAddr.l0] at H
   by_cases c15 : x7_1 > 0
   ·rw [if_pos c15] at H
    have c15b0 : decide (0 < x7_1) = true := decide_eq_true c15
    clear c15
    replace H := Option.bind_eq_some_iff.mp H
    obtain ⟨⟨t393, t394, t395⟩, A160, H⟩ := H
    replace H : ((spec_AddTo.f t374 t375 t376 t393).bind fun bt396 => (if bt396.2.2.2 = true then (if x6_1.length < 5864062014805 then (spec_DrawFirstAddr.l0 k1 (x6_1 ++ [(⟨bt396.1, bt396.2.1, bt396.2.2.1⟩ : S29)]) (wrap64 (x7_1 - 1)) t370 t394 t395 t374 t375 t376 t377) else (none)) else (spec_DrawFirstAddr.l0 k1 x6_1 (wrap64 (x7_1 - 1)) t370 t394 t395 t374 t375 t376 t377))) = some (r1, r2, r3, r4, r5) := H
    have A16 := Aside0.mk A160
    clear A160
    replace H := Option.bind_eq_some_iff.mp H
    obtain ⟨⟨t396, t397, t398, t399⟩, A170, H⟩ := H
    replace H : (if t399 = true then (if x6_1.length < 5864062014805 then (spec_DrawFirstAddr.l0 k1 (x6_1 ++ [(⟨t396, t397, t398⟩ : S29)]) (wrap64 (x7_1 - 1)) t370 t394 t395 t374 t375 t376 t377) else (none)) else (spec_DrawFirstAddr.l0 k1 x6_1 (wrap64 (x7_1 - 1)) t370 t394 t395 t374 t375 t376 t377)) = some (r1, r2, r3, r4, r5) := H
    have A17 := Aside0.mk A170
    clear A170
    by_cases c18 : t399 = true
    ·subst c18
     have H1 : (if x6_1.length < 5864062014805 then (spec_DrawFirstAddr.l0 k1 (x6_1 ++ [(⟨t396, t397, t398⟩ : S29)]) (wrap64 (x7_1 - 1)) t370 t394 t395 t374 t375 t376 t377) else (none)) = some (r1, r2, r3, r4, r5) := by rw [if_pos rfl] at H; exact H
     clear H
     have H := H1
     clear H1
     by_cases c19 : x6_1.length < 5864062014805
     ·rw [if_pos c19] at H
      have LMc19 := Aside0.mk c19
      clear c19
      obtain ⟨y401, hy401⟩ : ∃ y_ : List (S29), y_ = (x6_1 ++ [(⟨t396, t397, t398⟩ : S29)]) := ⟨_, rfl⟩
      replace H : (spec_DrawFirstAddr.l0 k1 y401 (wrap64 (x7_1 - 1)) t370 t394 t395 t374 t375 t376 t377) = some (r1, r2, r3, r4, r5) := by first | (rw [hy401]; with_reducible exact H) | (have H2_ := (Option.bind_some _ _).symm.trans H; rw [hy401]; with_reducible exact H2_) | (have H2_ := (Option.bind_some _ _).symm.trans H; with_reducible exact H2_) | with_reducible exact H | (rw [hy401]; exact H) | exact H
      have Ny401 := Aside0.mk hy401
      clear hy401
      have H' := Aside0.mk H
      clear H
      try go_wp2
      have n0_ := Aside0.mk (Kd.R_drew HO_6.out)
      have n1_ := Aside0.mk (blk_drew BK369.out)
      have n2_ := Aside0.mk (blk_drew BK380.out)
      have n3_ := Aside0.mk (IsS159.drew HI373.out)
      have n4_ := Aside0.mk (below_drew1 HB.out)
      clear HO_6
      clear BK369
      clear BK380
      clear HI373
      clear HB
      have HO_6 := n0_
      have BK369 := n1_
      have BK380 := n2_
      have HI373 := n3_
      have HB := n4_
      clear n0_ n1_ n2_ n3_ n4_
      refine start_ (n := 11) (S := fun w' => w'.cell? ⟨gb380, 0, none⟩ = some (.bool t374) ∧ w'.cell? ⟨gb380, 1, none⟩ = some (.int .i64 t375) ∧ w'.cell? ⟨gb380, 2, none⟩ = some (.int .i64 t376) ∧ w'.cell? ⟨gb380, 3, none⟩ = some (.int .i64 t377)) (ds := []) #[false, false, false, false, false, false, false, false, false, false, false] (by kernel_rfl) rfl rfl ⟨(blk_cell BK380.out 0).trans rfl, (blk_cell BK380.out 1).trans rfl, (blk_cell BK380.out 2).trans rfl, (blk_cell BK380.out 3).trans rfl⟩ (fun hHeld => ?_); refine with_tabW spec_DrawFirstAddr.tab7 spec_DrawFirstAddr.bits7 (fun HT_ HW_ => ?_)
      generalize wr.drew = w20 at HO_6 BK369 BK380 HI373 HB hHeld ⊢
      refine pure_ (i := 0) (N := some 22) (v := ?_) (a' := ?_) #[true, false, false, false, false, false, false, false, false, false, false] rfl rfl (any_of HT_.out (by kernel_rfl)) (fun _ _ _ h => h) (Or.inl ⟨by rfl, ?_⟩) ?_ ?_
      rotate_left
      ·intro w'
       go_simp
       with_reducible rfl
      rotate_left
      ·simp only [put, setIfInBounds_toArray, set_cons_zero, set_cons_succ, i64_w, i32_w]
       rfl
      refine pure_ (i := 2) (N := some 24) (v := ?_) (a' := ?_) #[true, false, true, false, false, false, false, false, false, false, false] rfl rfl (any_of HT_.out (by kernel_rfl)) (fun _ _ _ h => h) (Or.inl ⟨by rfl, ?_⟩) ?_ ?_
      rotate_left
      ·intro w'
       go_simp
       with_reducible rfl
      rotate_left
      ·simp only [put, setIfInBounds_toArray, set_cons_zero, set_cons_succ, i64_w, i32_w]
       rfl
      refine take_ (i := 1) (N := some 23) (v := ?_) (a' := ?_) #[true, true, true, false, false, false, false, false, false, false, false] rfl rfl (take_ofW HT_.out HW_.out (by kernel_rfl)) (fun _ _ _ h => h) (Or.inl ⟨by rfl, ?_⟩) hHeld ?_ ?_
      rotate_left
      ·rintro w' ⟨s0, s1, s2, s3⟩
       go_simp
       with_reducible rfl
      rotate_left
      ·simp only [put, setIfInBounds_toArray, set_cons_zero, set_cons_succ, i64_w, i32_w]
       rfl
      refine join_ (σ := Nat) 2 #[true, true, true, true, true, true, true, true, true, false, false] (fun s_ => [(25, .int .i64 t393), (26, .tuple #[.agg #[.bool t396, .int .i64 t397, .int .i64 t398], .bool true]), (8, .pointer (some ⟨s_, 0, none⟩)), (21, .tuple #[.agg #[.bool t396, .int .i64 t397, .int .i64 t398], .bool true]), (27, .agg #[.bool t396, .int .i64 t397, .int .i64 t398]), (28, .bool true)]) (fun s_ w' => (w'.cell? ⟨gb380, 0, none⟩ = some (.bool t374) ∧ w'.cell? ⟨gb380, 1, none⟩ = some (.int .i64 t375) ∧ w'.cell? ⟨gb380, 2, none⟩ = some (.int .i64 t376) ∧ w'.cell? ⟨gb380, 3, none⟩ = some (.int .i64 t377)) ∧ (Kd.R k29 29 w' w.heap.size (fun k_ => k_ ≠ s_) u6 x6_1) ∧ (w'.heap[gb369]? = some (.cells #[.bool false, .int .i64 0, .int .i64 0, .int .i64 0] 31 (0, 0))) ∧ (w'.heap[gb380]? = some (.cells #[.bool t374, .int .i64 t375, .int .i64 t376, .int .i64 t377] 31 (0, 0))) ∧ (w'.heap[s_]? = some (.cells #[.bool false, .int .i64 0, .int .i64 0] 29 (0, 0))) ∧ (w.heap.size ≤ s_) ∧ (w.heap.size ≤ s_) ∧ (g373 ≠ s_) ∧ (s_ ≠ g373) ∧ (gb369 ≠ s_) ∧ (s_ ≠ gb369) ∧ (gb380 ≠ s_) ∧ (s_ ≠ gb380) ∧ (IsS159 w w' g373 t370 t394 t395) ∧ (Below w.heap.size w w')) ?_ ?_
      rotate_left
      ·intro hCont
       refine two_ (i := 3) (j := 8) (Ni := some 25) (Nj := some 8) #[true, true, true, true, false, false, false, false, false, false, false] #[true, true, true, false, false, false, false, false, true, false, false] rfl rfl rfl rfl (two_of HT_.out (by kernel_rfl)) (by decide) (by decide) (fun K hK => ?_) (fun K hK => ?_)
       ·skip
        refine goes_ Try.func104 (by kernel_rfl) rfl #[.pointer (some ⟨g373, 0, none⟩), .int .i64 8] (by rfl) rfl rfl al_ ?_
        with_reducible refine (spec_l1Below.calls g373 t370 x374001_1 x374002_1 8 t393 t394 t395 w _ ?side1 ?side2 A16.out).mono ?_
        (case side1 => repeat (first | (with_reducible first | exact HI373.out | apply IsS159.alloc | apply IsS159.drewN | apply IsS159.drew | apply IsS159.set_1 | apply IsS159.set_2 | refine IsS159.far ?_ NB373_369.out _ | refine IsS159.far ?_ NB373_380.out _) | exact HI373.out))
        (case side2 => repeat (first | (with_reducible first | exact HB.out | apply below_alloc | apply pw_below_drewN | apply below_drew1 | refine below_set ?_ (IsS159.ge HI373.out) | refine below_set ?_ GE369.out | refine below_set ?_ GE380.out) | exact HB.out))
        rintro e w21 ⟨rfl, hi, hb, hk⟩
        refine ⟨_, rfl, ?_⟩
        have n0_ := Aside0.mk (Kd.R_mono (Kd.R_keep (IsS159.apart (show IsS159 w _ g373 t370 x374001_1 x374002_1 from by repeat (first | (with_reducible first | exact HI373.out | apply IsS159.alloc | apply IsS159.drewN | apply IsS159.drew | apply IsS159.set_1 | apply IsS159.set_2 | refine IsS159.far ?_ NB373_369.out _ | refine IsS159.far ?_ NB373_380.out _) | exact HI373.out)) (by (with_reducible repeat (first | apply Kd.R_alloc | apply Kd.R_drewN | apply Kd.R_drew)); exact HO_6.out) (by decide)) hk (fun _ h => h.2)) (fun _ h => h.1))
        have n1_ := Aside0.mk (KeepBut.blk hk (g' := gb369) (o := .cells #[.bool false, .int .i64 0, .int .i64 0, .int .i64 0] 31 (0, 0)) (bk_ BK369.out) NB369_373.out (by simp))
        have n2_ := Aside0.mk (KeepBut.blk hk (g' := gb380) (o := .cells #[.bool t374, .int .i64 t375, .int .i64 t376, .int .i64 t377] 31 (0, 0)) (bk_ BK380.out) NB380_373.out (by simp))
        have n3_ := Aside0.mk (hb)
        have n4_ := Aside0.mk (hi)
        clear HO_6
        clear BK369
        clear BK380
        clear HB
        clear HI373
        have HO_6 := n0_
        have BK369 := n1_
        have BK380 := n2_
        have HB := n3_
        have HI373 := n4_
        clear n0_ n1_ n2_ n3_ n4_
        (try clear hb)
        (try clear hb2)
        (try clear hk)
        (try clear hi)
        refine hK.out _ _ ⟨(blk_cell BK380.out 0).trans rfl, (blk_cell BK380.out 1).trans rfl, (blk_cell BK380.out 2).trans rfl, (blk_cell BK380.out 3).trans rfl⟩ (fun hHeld => ?_)
        clear hK K
        refine norm_ (a' := ?_) ?_ ?_
        rotate_left
        ·show Act.put _ (some 25) _ = _
         simp only [put, setIfInBounds_toArray, set_cons_zero, set_cons_succ, i64_w, i32_w]
         rfl
        refine two_ (i := 4) (j := 8) (Ni := some 26) (Nj := some 8) #[true, true, true, true, true, false, false, false, false, false, false] #[true, true, true, true, false, false, false, false, true, false, false] rfl rfl rfl rfl (two_of HT_.out (by kernel_rfl)) (by decide) (by decide) (fun K hK => ?_) (fun K hK => ?_)
        ·skip
         refine goes_ Try.func105 (by kernel_rfl) rfl #[.agg #[.bool t374, .int .i64 t375, .int .i64 t376], .int .i64 t393] (by rfl) rfl rfl al_ ?_
         with_reducible refine (spec_AddTo.calls t374 t375 t376 t393 t396 t397 t398 true _ A17.out).mono ?_
         rintro e w22 ⟨rfl, hb⟩
         refine ⟨_, rfl, ?_⟩
         have n0_ := Aside0.mk (Kd.R_below (by (with_reducible repeat (first | apply Kd.R_alloc | apply Kd.R_drewN | apply Kd.R_drew)); exact HO_6.out) hb)
         have n1_ := Aside0.mk (blk_below (bk_ BK369.out) hb)
         have n2_ := Aside0.mk (blk_below (bk_ BK380.out) hb)
         have n3_ := Aside0.mk (IsS159.below (by repeat (first | (with_reducible first | exact HI373.out | apply IsS159.alloc | apply IsS159.drewN | apply IsS159.drew | apply IsS159.set_1 | apply IsS159.set_2 | refine IsS159.far ?_ NB373_369.out _ | refine IsS159.far ?_ NB373_380.out _) | exact HI373.out)) hb)
         have n4_ := Aside0.mk (below_step (by repeat (first | (with_reducible first | exact HB.out | apply below_alloc | apply pw_below_drewN | apply below_drew1 | refine below_set ?_ (IsS159.ge HI373.out) | refine below_set ?_ GE369.out | refine below_set ?_ GE380.out) | exact HB.out)) hb)
         clear HO_6
         clear BK369
         clear BK380
         clear HI373
         clear HB
         have HO_6 := n0_
         have BK369 := n1_
         have BK380 := n2_
         have HI373 := n3_
         have HB := n4_
         clear n0_ n1_ n2_ n3_ n4_
         (try clear hb)
         (try clear hb2)
         (try clear hk)
         (try clear hi)
         refine hK.out _ _ ⟨(blk_cell BK380.out 0).trans rfl, (blk_cell BK380.out 1).trans rfl, (blk_cell BK380.out 2).trans rfl, (blk_cell BK380.out 3).trans rfl⟩ (fun hHeld => ?_)
         clear hK K
         refine norm_ (a' := ?_) ?_ ?_
         rotate_left
         ·show Act.put _ (some 26) _ = _
          simp only [put, setIfInBounds_toArray, set_cons_zero, set_cons_succ, i64_w, i32_w]
          rfl
         refine pure_ (i := 5) (N := some 21) (v := ?_) (a' := ?_) #[true, true, true, true, true, true, false, false, false, false, false] rfl rfl (any_of HT_.out (by kernel_rfl)) (fun _ _ _ h => h) (Or.inl ⟨by rfl, ?_⟩) ?_ ?_
         rotate_left
         ·intro w'
          go_simp
          with_reducible rfl
         rotate_left
         ·simp only [put, setIfInBounds_toArray, set_cons_zero, set_cons_succ, i64_w, i32_w]
          rfl
         refine pure_ (i := 6) (N := some 27) (v := ?_) (a' := ?_) #[true, true, true, true, true, true, true, false, false, false, false] rfl rfl (any_of HT_.out (by kernel_rfl)) (fun _ _ _ h => h) (Or.inl ⟨by rfl, ?_⟩) ?_ ?_
         rotate_left
         ·intro w'
          go_simp
          with_reducible rfl
         rotate_left
         ·simp only [put, setIfInBounds_toArray, set_cons_zero, set_cons_succ, i64_w, i32_w]
          rfl
         refine pure_ (i := 7) (N := some 28) (v := ?_) (a' := ?_) #[true, true, true, true, true, true, true, true, false, false, false] rfl rfl (any_of HT_.out (by kernel_rfl)) (fun _ _ _ h => h) (Or.inl ⟨by rfl, ?_⟩) ?_ ?_
         rotate_left
         ·intro w'
          go_simp
          with_reducible rfl
         rotate_left
         ·simp only [put, setIfInBounds_toArray, set_cons_zero, set_cons_succ, i64_w, i32_w]
          rfl
         refine one_ (i := 8) (N := some 8) #[true, true, true, true, true, true, true, true, true, false, false] rfl rfl (one_of HT_.out (by kernel_rfl)) (by decide) (fun K hK => ?_)
         refine box_step ?hg (N := 8) ?hd (cs := #[.bool false, .int .i64 0, .int .i64 0]) (t := 29) ?hr ?_; (case hd => rfl); (case hg => rfl); (case hr => first | (go_simp; done) | (go_simp; rfl))
         intro gb400 hg w23 hbox hb
         have n0_ := Aside0.mk (Kd.R_below (Kd.R_elderB (by (with_reducible repeat (first | apply Kd.R_alloc | apply Kd.R_drewN | apply Kd.R_drew)); exact HO_6.out) gb400 (Nat.le_of_eq hg.symm)) hb)
         have n1_ := Aside0.mk (blk_below (bk_ BK369.out) hb)
         have n2_ := Aside0.mk (blk_below (bk_ BK380.out) hb)
         have n3_ := Aside0.mk (IsS159.below (by repeat (first | (with_reducible first | exact HI373.out | apply IsS159.alloc | apply IsS159.drewN | apply IsS159.drew | apply IsS159.set_1 | apply IsS159.set_2 | refine IsS159.far ?_ NB373_369.out _ | refine IsS159.far ?_ NB373_380.out _) | exact HI373.out)) hb)
         have n4_ := Aside0.mk (below_step (by repeat (first | (with_reducible first | exact HB.out | apply below_alloc | apply pw_below_drewN | apply below_drew1 | refine below_set ?_ (IsS159.ge HI373.out) | refine below_set ?_ GE369.out | refine below_set ?_ GE380.out) | exact HB.out)) hb)
         have n5_ := Aside0.mk (hbox)
         have n6_ := Aside0.mk ((by rw [hg]; exact (below_size (by repeat (first | (with_reducible first | exact HB.out | apply below_alloc | apply pw_below_drewN | apply below_drew1 | refine below_set ?_ (IsS159.ge HI373.out) | refine below_set ?_ GE369.out | refine below_set ?_ GE380.out) | exact HB.out))) : w.heap.size ≤ gb400))
         have n7_ := Aside0.mk ((by rw [hg]; exact (below_size (by repeat (first | (with_reducible first | exact HB.out | apply below_alloc | apply pw_below_drewN | apply below_drew1 | refine below_set ?_ (IsS159.ge HI373.out) | refine below_set ?_ GE369.out | refine below_set ?_ GE380.out) | exact HB.out))) : w.heap.size ≤ gb400))
         have n8_ := bn_ hg (blk_lt (bk_ BK369.out))
         have n9_ := bm_ hg (blk_lt (bk_ BK369.out))
         have n10_ := bn_ hg (blk_lt (bk_ BK380.out))
         have n11_ := bm_ hg (blk_lt (bk_ BK380.out))
         have n12_ := Aside0.mk ((by rw [hg]; exact Nat.ne_of_lt (IsS159.lt (show IsS159 w _ g373 t370 t394 t395 from by repeat (first | (with_reducible first | exact HI373.out | apply IsS159.alloc | apply IsS159.drewN | apply IsS159.drew | apply IsS159.set_1 | apply IsS159.set_2 | refine IsS159.far ?_ NB373_369.out _ | refine IsS159.far ?_ NB373_380.out _) | exact HI373.out))) : g373 ≠ gb400))
         have n13_ := Aside0.mk ((by rw [hg]; exact Nat.ne_of_gt (IsS159.lt (show IsS159 w _ g373 t370 t394 t395 from by repeat (first | (with_reducible first | exact HI373.out | apply IsS159.alloc | apply IsS159.drewN | apply IsS159.drew | apply IsS159.set_1 | apply IsS159.set_2 | refine IsS159.far ?_ NB373_369.out _ | refine IsS159.far ?_ NB373_380.out _) | exact HI373.out))) : gb400 ≠ g373))
         clear HO_6
         clear BK369
         clear BK380
         clear HI373
         clear HB
         have HO_6 := n0_
         have BK369 := n1_
         have BK380 := n2_
         have HI373 := n3_
         have HB := n4_
         have BK400 := n5_
         have GW400 := n6_
         have GE400 := n7_
         have NB369_400 := n8_
         have NB400_369 := n9_
         have NB380_400 := n10_
         have NB400_380 := n11_
         have NB373_400 := n12_
         have NB400_373 := n13_
         clear n0_ n1_ n2_ n3_ n4_ n5_ n6_ n7_ n8_ n9_ n10_ n11_ n12_ n13_
         clear hb hbox hg
         refine hK.out _ _ ⟨(blk_cell BK380.out 0).trans rfl, (blk_cell BK380.out 1).trans rfl, (blk_cell BK380.out 2).trans rfl, (blk_cell BK380.out 3).trans rfl⟩ (fun hHeld => ?_)
         clear hK K
         refine norm_ (a' := ?_) ?_ ?_
         rotate_left
         ·show Act.put _ (some 8) _ = _
          simp only [put, setIfInBounds_toArray, set_cons_zero, set_cons_succ, i64_w, i32_w]
          rfl
         exact norm_ (by simp only [putAll, Act.put, List.setIfInBounds_toArray, List.set_cons_zero, List.set_cons_succ]) (hCont (gb400) _ ⟨hHeld, (by (with_reducible repeat (first | apply Kd.R_alloc | apply Kd.R_drewN | apply Kd.R_drew)); exact Kd.R_mono HO_6.out (fun _ hk => hk.2)), (bk_ BK369.out), (bk_ BK380.out), (bk_ BK400.out), GW400.out, GE400.out, NB373_400.out, NB400_373.out, NB369_400.out, NB400_369.out, NB380_400.out, NB400_380.out, (by repeat (first | (with_reducible first | exact HI373.out | apply IsS159.alloc | apply IsS159.drewN | apply IsS159.drew | apply IsS159.set_1 | apply IsS159.set_2 | refine IsS159.far ?_ NB373_369.out _ | refine IsS159.far ?_ NB373_380.out _ | refine IsS159.far ?_ NB373_400.out _) | exact HI373.out)), (by repeat (first | (with_reducible first | exact HB.out | apply below_alloc | apply pw_below_drewN | apply below_drew1 | refine below_set ?_ (IsS159.ge HI373.out) | refine below_set ?_ GE369.out | refine below_set ?_ GE380.out | refine below_set ?_ GE400.out) | exact HB.out))⟩)
        ·skip
         refine box_step ?hg (N := 8) ?hd (cs := #[.bool false, .int .i64 0, .int .i64 0]) (t := 29) ?hr ?_; (case hd => rfl); (case hg => rfl); (case hr => first | (go_simp; done) | (go_simp; rfl))
         intro gb400 hg w22 hbox hb
         have n0_ := Aside0.mk (Kd.R_below (Kd.R_elderB (by (with_reducible repeat (first | apply Kd.R_alloc | apply Kd.R_drewN | apply Kd.R_drew)); exact HO_6.out) gb400 (Nat.le_of_eq hg.symm)) hb)
         have n1_ := Aside0.mk (blk_below (bk_ BK369.out) hb)
         have n2_ := Aside0.mk (blk_below (bk_ BK380.out) hb)
         have n3_ := Aside0.mk (IsS159.below (by repeat (first | (with_reducible first | exact HI373.out | apply IsS159.alloc | apply IsS159.drewN | apply IsS159.drew | apply IsS159.set_1 | apply IsS159.set_2 | refine IsS159.far ?_ NB373_369.out _ | refine IsS159.far ?_ NB373_380.out _) | exact HI373.out)) hb)
         have n4_ := Aside0.mk (below_step (by repeat (first | (with_reducible first | exact HB.out | apply below_alloc | apply pw_below_drewN | apply below_drew1 | refine below_set ?_ (IsS159.ge HI373.out) | refine below_set ?_ GE369.out | refine below_set ?_ GE380.out) | exact HB.out)) hb)
         have n5_ := Aside0.mk (hbox)
         have n6_ := Aside0.mk ((by rw [hg]; exact (below_size (by repeat (first | (with_reducible first | exact HB.out | apply below_alloc | apply pw_below_drewN | apply below_drew1 | refine below_set ?_ (IsS159.ge HI373.out) | refine below_set ?_ GE369.out | refine below_set ?_ GE380.out) | exact HB.out))) : w.heap.size ≤ gb400))
         have n7_ := Aside0.mk ((by rw [hg]; exact (below_size (by repeat (first | (with_reducible first | exact HB.out | apply below_alloc | apply pw_below_drewN | apply below_drew1 | refine below_set ?_ (IsS159.ge HI373.out) | refine below_set ?_ GE369.out | refine below_set ?_ GE380.out) | exact HB.out))) : w.heap.size ≤ gb400))
         have n8_ := bn_ hg (blk_lt (bk_ BK369.out))
         have n9_ := bm_ hg (blk_lt (bk_ BK369.out))
         have n10_ := bn_ hg (blk_lt (bk_ BK380.out))
         have n11_ := bm_ hg (blk_lt (bk_ BK380.out))
         have n12_ := Aside0.mk ((by rw [hg]; exact Nat.ne_of_lt (IsS159.lt (show IsS159 w _ g373 t370 t394 t395 from by repeat (first | (with_reducible first | exact HI373.out | apply IsS159.alloc | apply IsS159.drewN | apply IsS159.drew | apply IsS159.set_1 | apply IsS159.set_2 | refine IsS159.far ?_ NB373_369.out _ | refine IsS159.far ?_ NB373_380.out _) | exact HI373.out))) : g373 ≠ gb400))
         have n13_ := Aside0.mk ((by rw [hg]; exact Nat.ne_of_gt (IsS159.lt (show IsS159 w _ g373 t370 t394 t395 from by repeat (first | (with_reducible first | exact HI373.out | apply IsS159.alloc | apply IsS159.drewN | apply IsS159.drew | apply IsS159.set_1 | apply IsS159.set_2 | refine IsS159.far ?_ NB373_369.out _ | refine IsS159.far ?_ NB373_380.out _) | exact HI373.out))) : gb400 ≠ g373))
         clear HO_6
         clear BK369
         clear BK380
         clear HI373
         clear HB
         have HO_6 := n0_
         have BK369 := n1_
         have BK380 := n2_
         have HI373 := n3_
         have HB := n4_
         have BK400 := n5_
         have GW400 := n6_
         have GE400 := n7_
         have NB369_400 := n8_
         have NB400_369 := n9_
         have NB380_400 := n10_
         have NB400_380 := n11_
         have NB373_400 := n12_
         have NB400_373 := n13_
         clear n0_ n1_ n2_ n3_ n4_ n5_ n6_ n7_ n8_ n9_ n10_ n11_ n12_ n13_
         clear hb hbox hg
         refine hK.out _ _ ⟨(blk_cell BK380.out 0).trans rfl, (blk_cell BK380.out 1).trans rfl, (blk_cell BK380.out 2).trans rfl, (blk_cell BK380.out 3).trans rfl⟩ (fun hHeld => ?_)
         clear hK K
         refine norm_ (a' := ?_) ?_ ?_
         rotate_left
         ·show Act.put _ (some 8) _ = _
          simp only [put, setIfInBounds_toArray, set_cons_zero, set_cons_succ, i64_w, i32_w]
          rfl
         refine one_ (i := 4) (N := some 26) #[true, true, true, true, true, false, false, false, true, false, false] rfl rfl (one_of HT_.out (by kernel_rfl)) (by decide) (fun K hK => ?_)
         refine goes_ Try.func105 (by kernel_rfl) rfl #[.agg #[.bool t374, .int .i64 t375, .int .i64 t376], .int .i64 t393] (by rfl) rfl rfl al_ ?_
         with_reducible refine (spec_AddTo.calls t374 t375 t376 t393 t396 t397 t398 true _ A17.out).mono ?_
         rintro e w23 ⟨rfl, hb⟩
         refine ⟨_, rfl, ?_⟩
         have n0_ := Aside0.mk (Kd.R_below (by (with_reducible repeat (first | apply Kd.R_alloc | apply Kd.R_drewN | apply Kd.R_drew)); exact HO_6.out) hb)
         have n1_ := Aside0.mk (blk_below (bk_ BK369.out) hb)
         have n2_ := Aside0.mk (blk_below (bk_ BK380.out) hb)
         have n3_ := Aside0.mk (IsS159.below (by repeat (first | (with_reducible first | exact HI373.out | apply IsS159.alloc | apply IsS159.drewN | apply IsS159.drew | apply IsS159.set_1 | apply IsS159.set_2 | refine IsS159.far ?_ NB373_369.out _ | refine IsS159.far ?_ NB373_380.out _ | refine IsS159.far ?_ NB373_400.out _) | exact HI373.out)) hb)
         have n4_ := Aside0.mk (blk_below (bk_ BK400.out) hb)
         have n5_ := Aside0.mk (below_step (by repeat (first | (with_reducible first | exact HB.out | apply below_alloc | apply pw_below_drewN | apply below_drew1 | refine below_set ?_ (IsS159.ge HI373.out) | refine below_set ?_ GE369.out | refine below_set ?_ GE380.out | refine below_set ?_ GE400.out) | exact HB.out)) hb)
         clear HO_6
         clear BK369
         clear BK380
         clear HI373
         clear BK400
         clear HB
         have HO_6 := n0_
         have BK369 := n1_
         have BK380 := n2_
         have HI373 := n3_
         have BK400 := n4_
         have HB := n5_
         clear n0_ n1_ n2_ n3_ n4_ n5_
         (try clear hb)
         (try clear hb2)
         (try clear hk)
         (try clear hi)
         refine hK.out _ _ ⟨(blk_cell BK380.out 0).trans rfl, (blk_cell BK380.out 1).trans rfl, (blk_cell BK380.out 2).trans rfl, (blk_cell BK380.out 3).trans rfl⟩ (fun hHeld => ?_)
         clear hK K
         refine norm_ (a' := ?_) ?_ ?_
         rotate_left
         ·show Act.put _ (some 26) _ = _
          simp only [put, setIfInBounds_toArray, set_cons_zero, set_cons_succ, i64_w, i32_w]
          rfl
         refine pure_ (i := 5) (N := some 21) (v := ?_) (a' := ?_) #[true, true, true, true, true, true, false, false, true, false, false] rfl rfl (any_of HT_.out (by kernel_rfl)) (fun _ _ _ h => h) (Or.inl ⟨by rfl, ?_⟩) ?_ ?_
         rotate_left
         ·intro w'
          go_simp
          with_reducible rfl
         rotate_left
         ·simp only [put, setIfInBounds_toArray, set_cons_zero, set_cons_succ, i64_w, i32_w]
          rfl
         refine pure_ (i := 6) (N := some 27) (v := ?_) (a' := ?_) #[true, true, true, true, true, true, true, false, true, false, false] rfl rfl (any_of HT_.out (by kernel_rfl)) (fun _ _ _ h => h) (Or.inl ⟨by rfl, ?_⟩) ?_ ?_
         rotate_left
         ·intro w'
          go_simp
          with_reducible rfl
         rotate_left
         ·simp only [put, setIfInBounds_toArray, set_cons_zero, set_cons_succ, i64_w, i32_w]
          rfl
         refine pure_ (i := 7) (N := some 28) (v := ?_) (a' := ?_) #[true, true, true, true, true, true, true, true, true, false, false] rfl rfl (any_of HT_.out (by kernel_rfl)) (fun _ _ _ h => h) (Or.inl ⟨by rfl, ?_⟩) ?_ ?_
         rotate_left
         ·intro w'
          go_simp
          with_reducible rfl
         rotate_left
         ·simp only [put, setIfInBounds_toArray, set_cons_zero, set_cons_succ, i64_w, i32_w]
          rfl
         exact norm_ (by simp only [putAll, Act.put, List.setIfInBounds_toArray, List.set_cons_zero, List.set_cons_succ]) (hCont (gb400) _ ⟨hHeld, (by (with_reducible repeat (first | apply Kd.R_alloc | apply Kd.R_drewN | apply Kd.R_drew)); exact Kd.R_mono HO_6.out (fun _ hk => hk.2)), (bk_ BK369.out), (bk_ BK380.out), (bk_ BK400.out), GW400.out, GE400.out, NB373_400.out, NB400_373.out, NB369_400.out, NB400_369.out, NB380_400.out, NB400_380.out, (by repeat (first | (with_reducible first | exact HI373.out | apply IsS159.alloc | apply IsS159.drewN | apply IsS159.drew | apply IsS159.set_1 | apply IsS159.set_2 | refine IsS159.far ?_ NB373_369.out _ | refine IsS159.far ?_ NB373_380.out _ | refine IsS159.far ?_ NB373_400.out _) | exact HI373.out)), (by repeat (first | (with_reducible first | exact HB.out | apply below_alloc | apply pw_below_drewN | apply below_drew1 | refine below_set ?_ (IsS159.ge HI373.out) | refine below_set ?_ GE369.out | refine below_set ?_ GE380.out | refine below_set ?_ GE400.out) | exact HB.out))⟩)
       ·skip
        refine box_step ?hg (N := 8) ?hd (cs := #[.bool false, .int .i64 0, .int .i64 0]) (t := 29) ?hr ?_; (case hd => rfl); (case hg => rfl); (case hr => first | (go_simp; done) | (go_simp; rfl))
        intro gb400 hg w21 hbox hb
        have n0_ := Aside0.mk (Kd.R_below (Kd.R_elderB (by (with_reducible repeat (first | apply Kd.R_alloc | apply Kd.R_drewN | apply Kd.R_drew)); exact HO_6.out) gb400 (Nat.le_of_eq hg.symm)) hb)
        have n1_ := Aside0.mk (blk_below (bk_ BK369.out) hb)
        have n2_ := Aside0.mk (blk_below (bk_ BK380.out) hb)
        have n3_ := Aside0.mk (IsS159.below (by repeat (first | (with_reducible first | exact HI373.out | apply IsS159.alloc | apply IsS159.drewN | apply IsS159.drew | apply IsS159.set_1 | apply IsS159.set_2 | refine IsS159.far ?_ NB373_369.out _ | refine IsS159.far ?_ NB373_380.out _) | exact HI373.out)) hb)
        have n4_ := Aside0.mk (below_step (by repeat (first | (with_reducible first | exact HB.out | apply below_alloc | apply pw_below_drewN | apply below_drew1 | refine below_set ?_ (IsS159.ge HI373.out) | refine below_set ?_ GE369.out | refine below_set ?_ GE380.out) | exact HB.out)) hb)
        have n5_ := Aside0.mk (hbox)
        have n6_ := Aside0.mk ((by rw [hg]; exact (below_size (by repeat (first | (with_reducible first | exact HB.out | apply below_alloc | apply pw_below_drewN | apply below_drew1 | refine below_set ?_ (IsS159.ge HI373.out) | refine below_set ?_ GE369.out | refine below_set ?_ GE380.out) | exact HB.out))) : w.heap.size ≤ gb400))
        have n7_ := Aside0.mk ((by rw [hg]; exact (below_size (by repeat (first | (with_reducible first | exact HB.out | apply below_alloc | apply pw_below_drewN | apply below_drew1 | refine below_set ?_ (IsS159.ge HI373.out) | refine below_set ?_ GE369.out | refine below_set ?_ GE380.out) | exact HB.out))) : w.heap.size ≤ gb400))
        have n8_ := bn_ hg (blk_lt (bk_ BK369.out))
        have n9_ := bm_ hg (blk_lt (bk_ BK369.out))
        have n10_ := bn_ hg (blk_lt (bk_ BK380.out))
        have n11_ := bm_ hg (blk_lt (bk_ BK380.out))
        have n12_ := Aside0.mk ((by rw [hg]; exact Nat.ne_of_lt (IsS159.lt (show IsS159 w _ g373 t370 x374001_1 x374002_1 from by repeat (first | (with_reducible first | exact HI373.out | apply IsS159.alloc | apply IsS159.drewN | apply IsS159.drew | apply IsS159.set_1 | apply IsS159.set_2 | refine IsS159.far ?_ NB373_369.out _ | refine IsS159.far ?_ NB373_380.out _) | exact HI373.out))) : g373 ≠ gb400))
        have n13_ := Aside0.mk ((by rw [hg]; exact Nat.ne_of_gt (IsS159.lt (show IsS159 w _ g373 t370 x374001_1 x374002_1 from by repeat (first | (with_reducible first | exact HI373.out | apply IsS159.alloc | apply IsS159.drewN | apply IsS159.drew | apply IsS159.set_1 | apply IsS159.set_2 | refine IsS159.far ?_ NB373_369.out _ | refine IsS159.far ?_ NB373_380.out _) | exact HI373.out))) : gb400 ≠ g373))
        clear HO_6
        clear BK369
        clear BK380
        clear HI373
        clear HB
        have HO_6 := n0_
        have BK369 := n1_
        have BK380 := n2_
        have HI373 := n3_
        have HB := n4_
        have BK400 := n5_
        have GW400 := n6_
        have GE400 := n7_
        have NB369_400 := n8_
        have NB400_369 := n9_
        have NB380_400 := n10_
        have NB400_380 := n11_
        have NB373_400 := n12_
        have NB400_373 := n13_
        clear n0_ n1_ n2_ n3_ n4_ n5_ n6_ n7_ n8_ n9_ n10_ n11_ n12_ n13_
        clear hb hbox hg
        refine hK.out _ _ ⟨(blk_cell BK380.out 0).trans rfl, (blk_cell BK380.out 1).trans rfl, (blk_cell BK380.out 2).trans rfl, (blk_cell BK380.out 3).trans rfl⟩ (fun hHeld => ?_)
        clear hK K
        refine norm_ (a' := ?_) ?_ ?_
        rotate_left
        ·show Act.put _ (some 8) _ = _
         simp only [put, setIfInBounds_toArray, set_cons_zero, set_cons_succ, i64_w, i32_w]
         rfl
        refine one_ (i := 3) (N := some 25) #[true, true, true, true, false, false, false, false, true, false, false] rfl rfl (one_of HT_.out (by kernel_rfl)) (by decide) (fun K hK => ?_)
        refine goes_ Try.func104 (by kernel_rfl) rfl #[.pointer (some ⟨g373, 0, none⟩), .int .i64 8] (by rfl) rfl rfl al_ ?_
        with_reducible refine (spec_l1Below.calls g373 t370 x374001_1 x374002_1 8 t393 t394 t395 w _ ?side1 ?side2 A16.out).mono ?_
        (case side1 => repeat (first | (with_reducible first | exact HI373.out | apply IsS159.alloc | apply IsS159.drewN | apply IsS159.drew | apply IsS159.set_1 | apply IsS159.set_2 | refine IsS159.far ?_ NB373_369.out _ | refine IsS159.far ?_ NB373_380.out _ | refine IsS159.far ?_ NB373_400.out _) | exact HI373.out))
        (case side2 => repeat (first | (with_reducible first | exact HB.out | apply below_alloc | apply pw_below_drewN | apply below_drew1 | refine below_set ?_ (IsS159.ge HI373.out) | refine below_set ?_ GE369.out | refine below_set ?_ GE380.out | refine below_set ?_ GE400.out) | exact HB.out))
        rintro e w22 ⟨rfl, hi, hb, hk⟩
        refine ⟨_, rfl, ?_⟩
        have n0_ := Aside0.mk (Kd.R_mono (Kd.R_keep (IsS159.apart (show IsS159 w _ g373 t370 x374001_1 x374002_1 from by repeat (first | (with_reducible first | exact HI373.out | apply IsS159.alloc | apply IsS159.drewN | apply IsS159.drew | apply IsS159.set_1 | apply IsS159.set_2 | refine IsS159.far ?_ NB373_369.out _ | refine IsS159.far ?_ NB373_380.out _ | refine IsS159.far ?_ NB373_400.out _) | exact HI373.out)) (by (with_reducible repeat (first | apply Kd.R_alloc | apply Kd.R_drewN | apply Kd.R_drew)); exact HO_6.out) (by decide)) hk (fun _ h => h.2)) (fun _ h => h.1))
        have n1_ := Aside0.mk (KeepBut.blk hk (g' := gb369) (o := .cells #[.bool false, .int .i64 0, .int .i64 0, .int .i64 0] 31 (0, 0)) (bk_ BK369.out) NB369_373.out (by simp))
        have n2_ := Aside0.mk (KeepBut.blk hk (g' := gb380) (o := .cells #[.bool t374, .int .i64 t375, .int .i64 t376, .int .i64 t377] 31 (0, 0)) (bk_ BK380.out) NB380_373.out (by simp))
        have n3_ := Aside0.mk (KeepBut.blk hk (g' := gb400) (o := .cells #[.bool false, .int .i64 0, .int .i64 0] 29 (0, 0)) (bk_ BK400.out) NB400_373.out (by simp))
        have n4_ := Aside0.mk (hb)
        have n5_ := Aside0.mk (hi)
        clear HO_6
        clear BK369
        clear BK380
        clear BK400
        clear HB
        clear HI373
        have HO_6 := n0_
        have BK369 := n1_
        have BK380 := n2_
        have BK400 := n3_
        have HB := n4_
        have HI373 := n5_
        clear n0_ n1_ n2_ n3_ n4_ n5_
        (try clear hb)
        (try clear hb2)
        (try clear hk)
        (try clear hi)
        refine hK.out _ _ ⟨(blk_cell BK380.out 0).trans rfl, (blk_cell BK380.out 1).trans rfl, (blk_cell BK380.out 2).trans rfl, (blk_cell BK380.out 3).trans rfl⟩ (fun hHeld => ?_)
        clear hK K
        refine norm_ (a' := ?_) ?_ ?_
        rotate_left
        ·show Act.put _ (some 25) _ = _
         simp only [put, setIfInBounds_toArray, set_cons_zero, set_cons_succ, i64_w, i32_w]
         rfl
        refine one_ (i := 4) (N := some 26) #[true, true, true, true, true, false, false, false, true, false, false] rfl rfl (one_of HT_.out (by kernel_rfl)) (by decide) (fun K hK => ?_)
        refine goes_ Try.func105 (by kernel_rfl) rfl #[.agg #[.bool t374, .int .i64 t375, .int .i64 t376], .int .i64 t393] (by rfl) rfl rfl al_ ?_
        with_reducible refine (spec_AddTo.calls t374 t375 t376 t393 t396 t397 t398 true _ A17.out).mono ?_
        rintro e w23 ⟨rfl, hb⟩
        refine ⟨_, rfl, ?_⟩
        have n0_ := Aside0.mk (Kd.R_below (by (with_reducible repeat (first | apply Kd.R_alloc | apply Kd.R_drewN | apply Kd.R_drew)); exact HO_6.out) hb)
        have n1_ := Aside0.mk (blk_below (bk_ BK369.out) hb)
        have n2_ := Aside0.mk (blk_below (bk_ BK380.out) hb)
        have n3_ := Aside0.mk (IsS159.below (by repeat (first | (with_reducible first | exact HI373.out | apply IsS159.alloc | apply IsS159.drewN | apply IsS159.drew | apply IsS159.set_1 | apply IsS159.set_2 | refine IsS159.far ?_ NB373_369.out _ | refine IsS159.far ?_ NB373_380.out _ | refine IsS159.far ?_ NB373_400.out _) | exact HI373.out)) hb)
        have n4_ := Aside0.mk (blk_below (bk_ BK400.out) hb)
        have n5_ := Aside0.mk (below_step (by repeat (first | (with_reducible first | exact HB.out | apply below_alloc | apply pw_below_drewN | apply below_drew1 | refine below_set ?_ (IsS159.ge HI373.out) | refine below_set ?_ GE369.out | refine below_set ?_ GE380.out | refine below_set ?_ GE400.out) | exact HB.out)) hb)
        clear HO_6
        clear BK369
        clear BK380
        clear HI373
        clear BK400
        clear HB
        have HO_6 := n0_
        have BK369 := n1_
        have BK380 := n2_
        have HI373 := n3_
        have BK400 := n4_
        have HB := n5_
        clear n0_ n1_ n2_ n3_ n4_ n5_
        (try clear hb)
        (try clear hb2)
        (try clear hk)
        (try clear hi)
        refine hK.out _ _ ⟨(blk_cell BK380.out 0).trans rfl, (blk_cell BK380.out 1).trans rfl, (blk_cell BK380.out 2).trans rfl, (blk_cell BK380.out 3).trans rfl⟩ (fun hHeld => ?_)
        clear hK K
        refine norm_ (a' := ?_) ?_ ?_
        rotate_left
        ·show Act.put _ (some 26) _ = _
         simp only [put, setIfInBounds_toArray, set_cons_zero, set_cons_succ, i64_w, i32_w]
         rfl
        refine pure_ (i := 5) (N := some 21) (v := ?_) (a' := ?_) #[true, true, true, true, true, true, false, false, true, false, false] rfl rfl (any_of HT_.out (by kernel_rfl)) (fun _ _ _ h => h) (Or.inl ⟨by rfl, ?_⟩) ?_ ?_
        rotate_left
        ·intro w'
         go_simp
         with_reducible rfl
        rotate_left
        ·simp only [put, setIfInBounds_toArray, set_cons_zero, set_cons_succ, i64_w, i32_w]
         rfl
        refine pure_ (i := 6) (N := some 27) (v := ?_) (a' := ?_) #[true, true, true, true, true, true, true, false, true, false, false] rfl rfl (any_of HT_.out (by kernel_rfl)) (fun _ _ _ h => h) (Or.inl ⟨by rfl, ?_⟩) ?_ ?_
        rotate_left
        ·intro w'
         go_simp
         with_reducible rfl
        rotate_left
        ·simp only [put, setIfInBounds_toArray, set_cons_zero, set_cons_succ, i64_w, i32_w]
         rfl
        refine pure_ (i := 7) (N := some 28) (v := ?_) (a' := ?_) #[true, true, true, true, true, true, true, true, true, false, false] rfl rfl (any_of HT_.out (by kernel_rfl)) (fun _ _ _ h => h) (Or.inl ⟨by rfl, ?_⟩) ?_ ?_
        rotate_left
        ·intro w'
         go_simp
         with_reducible rfl
        rotate_left
        ·simp only [put, setIfInBounds_toArray, set_cons_zero, set_cons_succ, i64_w, i32_w]
         rfl
        exact norm_ (by simp only [putAll, Act.put, List.setIfInBounds_toArray, List.set_cons_zero, List.set_cons_succ]) (hCont (gb400) _ ⟨hHeld, (by (with_reducible repeat (first | apply Kd.R_alloc | apply Kd.R_drewN | apply Kd.R_drew)); exact Kd.R_mono HO_6.out (fun _ hk => hk.2)), (bk_ BK369.out), (bk_ BK380.out), (bk_ BK400.out), GW400.out, GE400.out, NB373_400.out, NB400_373.out, NB369_400.out, NB400_369.out, NB380_400.out, NB400_380.out, (by repeat (first | (with_reducible first | exact HI373.out | apply IsS159.alloc | apply IsS159.drewN | apply IsS159.drew | apply IsS159.set_1 | apply IsS159.set_2 | refine IsS159.far ?_ NB373_369.out _ | refine IsS159.far ?_ NB373_380.out _ | refine IsS159.far ?_ NB373_400.out _) | exact HI373.out)), (by repeat (first | (with_reducible first | exact HB.out | apply below_alloc | apply pw_below_drewN | apply below_drew1 | refine below_set ?_ (IsS159.ge HI373.out) | refine below_set ?_ GE369.out | refine below_set ?_ GE380.out | refine below_set ?_ GE400.out) | exact HB.out))⟩)
      rintro gb400 w24 ⟨hS_, h0_, h1_, h2_, h3_, h4_, h5_, h6_, h7_, h8_, h9_, h10_, h11_, h12_, h13_⟩
      have n0_ : Aside0 (Kd.R k29 29 w24 w.heap.size (fun k_ => k_ ≠ gb400) u6 x6_1) := ⟨h0_⟩
      have n1_ : Aside0 (w24.heap[gb369]? = some (.cells #[.bool false, .int .i64 0, .int .i64 0, .int .i64 0] 31 (0, 0))) := ⟨h1_⟩
      have n2_ : Aside0 (w24.heap[gb380]? = some (.cells #[.bool t374, .int .i64 t375, .int .i64 t376, .int .i64 t377] 31 (0, 0))) := ⟨h2_⟩
      have n3_ : Aside0 (w24.heap[gb400]? = some (.cells #[.bool false, .int .i64 0, .int .i64 0] 29 (0, 0))) := ⟨h3_⟩
      have n4_ : Aside0 (w.heap.size ≤ gb400) := ⟨h4_⟩
      have n5_ : Aside0 (w.heap.size ≤ gb400) := ⟨h5_⟩
      have n6_ : Aside0 (g373 ≠ gb400) := ⟨h6_⟩
      have n7_ : Aside0 (gb400 ≠ g373) := ⟨h7_⟩
      have n8_ : Aside0 (gb369 ≠ gb400) := ⟨h8_⟩
      have n9_ : Aside0 (gb400 ≠ gb369) := ⟨h9_⟩
      have n10_ : Aside0 (gb380 ≠ gb400) := ⟨h10_⟩
      have n11_ : Aside0 (gb400 ≠ gb380) := ⟨h11_⟩
      have n12_ : Aside0 (IsS159 w w24 g373 t370 t394 t395) := ⟨h12_⟩
      have n13_ : Aside0 (Below w.heap.size w w24) := ⟨h13_⟩
      clear HO_6
      clear BK369
      clear BK380
      clear HI373
      clear HB
      clear h0_ h1_ h2_ h3_ h4_ h5_ h6_ h7_ h8_ h9_ h10_ h11_ h12_ h13_
      have HO_6 := n0_
      have BK369 := n1_
      have BK380 := n2_
      have BK400 := n3_
      have GW400 := n4_
      have GE400 := n5_
      have NB373_400 := n6_
      have NB400_373 := n7_
      have NB369_400 := n8_
      have NB400_369 := n9_
      have NB380_400 := n10_
      have NB400_380 := n11_
      have HI373 := n12_
      have HB := n13_
      clear n0_ n1_ n2_ n3_ n4_ n5_ n6_ n7_ n8_ n9_ n10_ n11_ n12_ n13_
      have hHeld : w24.cell? ⟨gb380, 0, none⟩ = some (.bool t374) ∧ w24.cell? ⟨gb380, 1, none⟩ = some (.int .i64 t375) ∧ w24.cell? ⟨gb380, 2, none⟩ = some (.int .i64 t376) ∧ w24.cell? ⟨gb380, 3, none⟩ = some (.int .i64 t377) := hS_
      refine norm_ (a' := ?_) ?_ ?_
      rotate_left
      ·simp only [putAll, Act.put, List.setIfInBounds_toArray, List.set_cons_zero, List.set_cons_succ]
       rfl
      refine one_ (i := 9) (N := none) #[true, true, true, true, true, true, true, true, true, true, false] rfl rfl (one_of HT_.out (by kernel_rfl)) (by decide) (fun K hK => ?_)
      have hs25 : w24.cell? ⟨gb400, 0, none⟩ = some (.bool false) := (blk_cell BK400.out 0).trans rfl
      have hfs25 := blk_frozen BK400.out 0
      have hns25_0 := NB369_400.out
      have hns25_1 := NB380_400.out
      have hms25_0 := NB400_369.out
      have hms25_1 := NB400_380.out
      have hs26 : w24.cell? ⟨gb400, 1, none⟩ = some (.int .i64 0) := (blk_cell BK400.out 1).trans rfl
      have hfs26 := blk_frozen BK400.out 1
      have hns26_0 := NB369_400.out
      have hns26_1 := NB380_400.out
      have hms26_0 := NB400_369.out
      have hms26_1 := NB400_380.out
      have hs27 : w24.cell? ⟨gb400, 2, none⟩ = some (.int .i64 0) := (blk_cell BK400.out 2).trans rfl
      have hfs27 := blk_frozen BK400.out 2
      have hns27_0 := NB369_400.out
      have hns27_1 := NB380_400.out
      have hms27_0 := NB400_369.out
      have hms27_1 := NB400_380.out
      refine skip_ (w1 := ?_) (by rfl) rfl ?_ ?_
      rotate_left
      ·go_simp
       rfl
      refine hK.out _ _ ⟨((cell_far (p := ⟨gb400, _, none⟩) NB380_400.out _).trans (((cell_far (p := ⟨gb400, _, none⟩) NB380_400.out _).trans (((cell_far (p := ⟨gb400, _, none⟩) NB380_400.out _).trans (hHeld.1)))))), ((cell_far (p := ⟨gb400, _, none⟩) NB380_400.out _).trans (((cell_far (p := ⟨gb400, _, none⟩) NB380_400.out _).trans (((cell_far (p := ⟨gb400, _, none⟩) NB380_400.out _).trans (hHeld.2.1)))))), ((cell_far (p := ⟨gb400, _, none⟩) NB380_400.out _).trans (((cell_far (p := ⟨gb400, _, none⟩) NB380_400.out _).trans (((cell_far (p := ⟨gb400, _, none⟩) NB380_400.out _).trans (hHeld.2.2.1)))))), ((cell_far (p := ⟨gb400, _, none⟩) NB380_400.out _).trans (((cell_far (p := ⟨gb400, _, none⟩) NB380_400.out _).trans (((cell_far (p := ⟨gb400, _, none⟩) NB380_400.out _).trans (hHeld.2.2.2))))))⟩ (fun hHeld => ?_)
      clear hK K
      refine pure_ (i := 10) (N := some 9) (v := ?_) (a' := ?_) #[true, true, true, true, true, true, true, true, true, true, true] rfl rfl (any_of HT_.out (by kernel_rfl)) (fun _ _ _ h => h) (Or.inl ⟨by rfl, ?_⟩) ?_ ?_
      rotate_left
      ·intro w'
       go_simp
       with_reducible rfl
      rotate_left
      ·simp only [put, setIfInBounds_toArray, set_cons_zero, set_cons_succ, i64_w, i32_w]
       rfl
      refine done_ (done_of HT_.out (by kernel_rfl)) ?_
      have hnb28 := NB400_369.out
      have hnc28 := NB369_400.out
      have hnb29 := NB400_380.out
      have hnc29 := NB380_400.out
      have hnb30 := NB400_373.out
      have hnc30 := NB373_400.out
      obtain ⟨hcz31_0, hcz31_1, hcz31_2, hfz31_0, hfz31_1, hfz31_2⟩ := bc3_ BK400.out
      try go_wp2_with (first | ((with_reducible refine gate_builtin (b := .append) (xs := #[.tmp 30, .tmp 32]) rfl ?_); at_builtin; refine Kd.R_append k29 (w0 := w) w.heap.size rfl (.tmp 30) (.tmp 32) 46 29 (.agg #[(.bool false), (.int .i64 0), (.int .i64 0)]) 24 rfl Try.underlying46 info29 rfl (by decide) (by omega) u6 x6_1 (⟨t396, t397, t398⟩ : S29) [.bool t396, .int .i64 t397, .int .i64 t398] (fun k_ => k_ ≠ gb400) (fun _ => False) rfl (by first | (go_simp; done) | (go_simp; rfl)) ?aP (fun _ hk => hk.elim) ?aF ?aO ?aB ?aS ?aL ?_; (case aP => exact k29_mkM _ _ _ (⟨t396, t397, t398⟩ : S29)); (case aB => exact (by repeat (first | (with_reducible first | exact HB.out | apply below_alloc | apply pw_below_drewN | apply below_drew1 | refine below_set ?_ (IsS159.ge HI373.out) | refine below_set ?_ GE369.out | refine below_set ?_ GE380.out | refine below_set ?_ GE400.out) | exact HB.out))); (case aF => exact (fun k_ hk => Kd.freshB (g := gb400) (o := .cells #[.bool t396, .int .i64 t397, .int .i64 t398] 29 (0, 0)) (by refine bk_ ?_; refine blk_put (cs := #[.bool t396, .int .i64 t397, .int .i64 0]) ?_ 2 _ rfl; refine bk_ ?_; refine blk_put (cs := #[.bool t396, .int .i64 0, .int .i64 0]) ?_ 1 _ rfl; refine bk_ ?_; refine blk_put (cs := #[.bool false, .int .i64 0, .int .i64 0]) ?_ 0 _ rfl; refine bk_ ?_; exact BK400.out) k_ hk)); (case aO => exact (by (with_reducible repeat (first | apply Kd.R_alloc | apply Kd.R_drewN | apply Kd.R_drew)); exact Kd.R_mono (Kd.R_far (p := ⟨gb400, 2, none⟩) (Kd.R_far (p := ⟨gb400, 1, none⟩) (Kd.R_far (p := ⟨gb400, 0, none⟩) (Kd.R_mono HO_6.out (fun k_ hk => (⟨hk, hk⟩ : _ ∧ k_ ≠ gb400))) (fun _ hk => hk.2) (.bool t396)) (fun _ hk => hk.2) (.int .i64 t397)) (fun _ hk => hk.2) (.int .i64 t398)) (fun _ hk => hk.1))); (case aS => exact (below_size (by repeat (first | (with_reducible first | exact HB.out | apply below_alloc | apply pw_below_drewN | apply below_drew1 | refine below_set ?_ (IsS159.ge HI373.out) | refine below_set ?_ GE369.out | refine below_set ?_ GE380.out | refine below_set ?_ GE400.out) | exact HB.out)))); (case aL => have := LMc19.out; omega); intro v402 w32 ho hb hg hat; rw [← Ny401.out] at ho; have n0_ := Aside0.mk (blk_grown (g := gb369) (o := .cells #[.bool false, .int .i64 0, .int .i64 0, .int .i64 0] 31 (0, 0)) (by refine bk_ ?_; refine blk_far ?_ NB369_400.out _; refine bk_ ?_; refine blk_far ?_ NB369_400.out _; refine bk_ ?_; refine blk_far ?_ NB369_400.out _; refine bk_ ?_; exact BK369.out) hg (Kd.R_ne HO_6.out BK369.out (by decide))); have n1_ := Aside0.mk (blk_grown (g := gb380) (o := .cells #[.bool t374, .int .i64 t375, .int .i64 t376, .int .i64 t377] 31 (0, 0)) (by refine bk_ ?_; refine blk_far ?_ NB380_400.out _; refine bk_ ?_; refine blk_far ?_ NB380_400.out _; refine bk_ ?_; refine blk_far ?_ NB380_400.out _; refine bk_ ?_; exact BK380.out) hg (Kd.R_ne HO_6.out BK380.out (by decide))); have n2_ := Aside0.mk (IsS159.grown (IsS159.far (IsS159.far (IsS159.far HI373.out NB373_400.out _) NB373_400.out _) NB373_400.out _) hg (IsS159.own_ne HI373.out HO_6.out (by decide))); have n3_ := Aside0.mk (blk_grown (g := gb400) (o := .cells #[.bool t396, .int .i64 t397, .int .i64 t398] 29 (0, 0)) (by refine blk_put (cs := #[.bool t396, .int .i64 t397, .int .i64 0]) ?_ 2 _ rfl; refine blk_put (cs := #[.bool t396, .int .i64 0, .int .i64 0]) ?_ 1 _ rfl; refine blk_put (cs := #[.bool false, .int .i64 0, .int .i64 0]) ?_ 0 _ rfl; exact BK400.out) hg (Kd.R_away HO_6.out (fun _ hk => hk))); have n4_ := Aside0.mk (hb); have n5_ := Aside0.mk (ho); clear BK369; clear BK380; clear HI373; clear BK400; clear HB; clear HO_6; have BK369 := n0_; have BK380 := n1_; have HI373 := n2_; have BK400 := n3_; have HB := n4_; have HO403 := n5_; clear n0_ n1_ n2_ n3_ n4_ n5_; clear ho hb hg hat))
      go_roundg k1
      case measure => have := HK1.out; omega
      case rel => exact ⟨(y401), (wrap64 (x7_1 - 1)), (t394), (t395), (by first | rfl | (simp; done) | (simp [*]; done)), H', ⟨by have := HK1.out; omega⟩, ⟨by (with_reducible repeat (first | apply Kd.R_alloc | apply Kd.R_drewN | apply Kd.R_drew)); exact Kd.R_mono HO403.out (fun _ hk => trivial)⟩, ⟨by refine bk_ ?_; exact BK369.out⟩, ⟨by refine bk_ ?_; exact BK380.out⟩, ⟨by repeat (first | (with_reducible first | exact HI373.out | apply IsS159.alloc | apply IsS159.drewN | apply IsS159.drew | apply IsS159.set_1 | apply IsS159.set_2 | refine IsS159.far ?_ NB373_369.out _ | refine IsS159.far ?_ NB373_380.out _ | refine IsS159.far ?_ NB373_400.out _) | exact HI373.out)⟩, ⟨by repeat (first | (with_reducible first | exact HB.out | apply below_alloc | apply pw_below_drewN | apply below_drew1 | refine below_set ?_ (IsS159.ge HI373.out) | refine below_set ?_ GE369.out | refine below_set ?_ GE380.out | refine below_set ?_ GE400.out) | exact HB.out)⟩⟩
     ·rw [if_neg c19] at H
      exact absurd H (by simp)
    ·replace c18 := Bool.eq_false_iff.mpr c18
     subst c18
     have H1 : (spec_DrawFirstAddr.l0 k1 x6_1 (wrap64 (x7_1 - 1)) t370 t394 t395 t374 t375 t376 t377) = some (r1, r2, r3, r4, r5) := by rw [if_neg (show ¬ (false = true) by decide)] at H; exact H
     clear H
     have H := H1
     clear H1
     have H' := Aside0.mk H
     clear H
     try go_wp2
     have n0_ := Aside0.mk (Kd.R_drew HO_6.out)
     have n1_ := Aside0.mk (blk_drew BK369.out)
     have n2_ := Aside0.mk (blk_drew BK380.out)
     have n3_ := Aside0.mk (IsS159.drew HI373.out)
     have n4_ := Aside0.mk (below_drew1 HB.out)
     clear HO_6
     clear BK369
     clear BK380
     clear HI373
     clear HB
     have HO_6 := n0_
     have BK369 := n1_
     have BK380 := n2_
     have HI373 := n3_
     have HB := n4_
     clear n0_ n1_ n2_ n3_ n4_
     refine start_ (n := 11) (S := fun w' => w'.cell? ⟨gb380, 0, none⟩ = some (.bool t374) ∧ w'.cell? ⟨gb380, 1, none⟩ = some (.int .i64 t375) ∧ w'.cell? ⟨gb380, 2, none⟩ = some (.int .i64 t376) ∧ w'.cell? ⟨gb380, 3, none⟩ = some (.int .i64 t377)) (ds := []) #[false, false, false, false, false, false, false, false, false, false, false] (by kernel_rfl) rfl rfl ⟨(blk_cell BK380.out 0).trans rfl, (blk_cell BK380.out 1).trans rfl, (blk_cell BK380.out 2).trans rfl, (blk_cell BK380.out 3).trans rfl⟩ (fun hHeld => ?_); refine with_tabW spec_DrawFirstAddr.tab7 spec_DrawFirstAddr.bits7 (fun HT_ HW_ => ?_)
     generalize wr.drew = w33 at HO_6 BK369 BK380 HI373 HB hHeld ⊢
     refine pure_ (i := 0) (N := some 22) (v := ?_) (a' := ?_) #[true, false, false, false, false, false, false, false, false, false, false] rfl rfl (any_of HT_.out (by kernel_rfl)) (fun _ _ _ h => h) (Or.inl ⟨by rfl, ?_⟩) ?_ ?_
     rotate_left
     ·intro w'
      go_simp
      with_reducible rfl
     rotate_left
     ·simp only [put, setIfInBounds_toArray, set_cons_zero, set_cons_succ, i64_w, i32_w]
      rfl
     refine pure_ (i := 2) (N := some 24) (v := ?_) (a' := ?_) #[true, false, true, false, false, false, false, false, false, false, false] rfl rfl (any_of HT_.out (by kernel_rfl)) (fun _ _ _ h => h) (Or.inl ⟨by rfl, ?_⟩) ?_ ?_
     rotate_left
     ·intro w'
      go_simp
      with_reducible rfl
     rotate_left
     ·simp only [put, setIfInBounds_toArray, set_cons_zero, set_cons_succ, i64_w, i32_w]
      rfl
     refine take_ (i := 1) (N := some 23) (v := ?_) (a' := ?_) #[true, true, true, false, false, false, false, false, false, false, false] rfl rfl (take_ofW HT_.out HW_.out (by kernel_rfl)) (fun _ _ _ h => h) (Or.inl ⟨by rfl, ?_⟩) hHeld ?_ ?_
     rotate_left
     ·rintro w' ⟨s0, s1, s2, s3⟩
      go_simp
      with_reducible rfl
     rotate_left
     ·simp only [put, setIfInBounds_toArray, set_cons_zero, set_cons_succ, i64_w, i32_w]
      rfl
     refine join_ (σ := Nat) 2 #[true, true, true, true, true, true, true, true, true, false, false] (fun s_ => [(25, .int .i64 t393), (26, .tuple #[.agg #[.bool t396, .int .i64 t397, .int .i64 t398], .bool false]), (8, .pointer (some ⟨s_, 0, none⟩)), (21, .tuple #[.agg #[.bool t396, .int .i64 t397, .int .i64 t398], .bool false]), (27, .agg #[.bool t396, .int .i64 t397, .int .i64 t398]), (28, .bool false)]) (fun s_ w' => (w'.cell? ⟨gb380, 0, none⟩ = some (.bool t374) ∧ w'.cell? ⟨gb380, 1, none⟩ = some (.int .i64 t375) ∧ w'.cell? ⟨gb380, 2, none⟩ = some (.int .i64 t376) ∧ w'.cell? ⟨gb380, 3, none⟩ = some (.int .i64 t377)) ∧ (Kd.R k29 29 w' w.heap.size (fun k_ => k_ ≠ s_) u6 x6_1) ∧ (w'.heap[gb369]? = some (.cells #[.bool false, .int .i64 0, .int .i64 0, .int .i64 0] 31 (0, 0))) ∧ (w'.heap[gb380]? = some (.cells #[.bool t374, .int .i64 t375, .int .i64 t376, .int .i64 t377] 31 (0, 0))) ∧ (w'.heap[s_]? = some (.cells #[.bool false, .int .i64 0, .int .i64 0] 29 (0, 0))) ∧ (w.heap.size ≤ s_) ∧ (w.heap.size ≤ s_) ∧ (g373 ≠ s_) ∧ (s_ ≠ g373) ∧ (gb369 ≠ s_) ∧ (s_ ≠ gb369) ∧ (gb380 ≠ s_) ∧ (s_ ≠ gb380) ∧ (IsS159 w w' g373 t370 t394 t395) ∧ (Below w.heap.size w w')) ?_ ?_
     rotate_left
     ·intro hCont
      refine two_ (i := 3) (j := 8) (Ni := some 25) (Nj := some 8) #[true, true, true, true, false, false, false, false, false, false, false] #[true, true, true, false, false, false, false, false, true, false, false] rfl rfl rfl rfl (two_of HT_.out (by kernel_rfl)) (by decide) (by decide) (fun K hK => ?_) (fun K hK => ?_)
      ·skip
       refine goes_ Try.func104 (by kernel_rfl) rfl #[.pointer (some ⟨g373, 0, none⟩), .int .i64 8] (by rfl) rfl rfl al_ ?_
       with_reducible refine (spec_l1Below.calls g373 t370 x374001_1 x374002_1 8 t393 t394 t395 w _ ?side1 ?side2 A16.out).mono ?_
       (case side1 => repeat (first | (with_reducible first | exact HI373.out | apply IsS159.alloc | apply IsS159.drewN | apply IsS159.drew | apply IsS159.set_1 | apply IsS159.set_2 | refine IsS159.far ?_ NB373_369.out _ | refine IsS159.far ?_ NB373_380.out _) | exact HI373.out))
       (case side2 => repeat (first | (with_reducible first | exact HB.out | apply below_alloc | apply pw_below_drewN | apply below_drew1 | refine below_set ?_ (IsS159.ge HI373.out) | refine below_set ?_ GE369.out | refine below_set ?_ GE380.out) | exact HB.out))
       rintro e w34 ⟨rfl, hi, hb, hk⟩
       refine ⟨_, rfl, ?_⟩
       have n0_ := Aside0.mk (Kd.R_mono (Kd.R_keep (IsS159.apart (show IsS159 w _ g373 t370 x374001_1 x374002_1 from by repeat (first | (with_reducible first | exact HI373.out | apply IsS159.alloc | apply IsS159.drewN | apply IsS159.drew | apply IsS159.set_1 | apply IsS159.set_2 | refine IsS159.far ?_ NB373_369.out _ | refine IsS159.far ?_ NB373_380.out _) | exact HI373.out)) (by (with_reducible repeat (first | apply Kd.R_alloc | apply Kd.R_drewN | apply Kd.R_drew)); exact HO_6.out) (by decide)) hk (fun _ h => h.2)) (fun _ h => h.1))
       have n1_ := Aside0.mk (KeepBut.blk hk (g' := gb369) (o := .cells #[.bool false, .int .i64 0, .int .i64 0, .int .i64 0] 31 (0, 0)) (bk_ BK369.out) NB369_373.out (by simp))
       have n2_ := Aside0.mk (KeepBut.blk hk (g' := gb380) (o := .cells #[.bool t374, .int .i64 t375, .int .i64 t376, .int .i64 t377] 31 (0, 0)) (bk_ BK380.out) NB380_373.out (by simp))
       have n3_ := Aside0.mk (hb)
       have n4_ := Aside0.mk (hi)
       clear HO_6
       clear BK369
       clear BK380
       clear HB
       clear HI373
       have HO_6 := n0_
       have BK369 := n1_
       have BK380 := n2_
       have HB := n3_
       have HI373 := n4_
       clear n0_ n1_ n2_ n3_ n4_
       (try clear hb)
       (try clear hb2)
       (try clear hk)
       (try clear hi)
       refine hK.out _ _ ⟨(blk_cell BK380.out 0).trans rfl, (blk_cell BK380.out 1).trans rfl, (blk_cell BK380.out 2).trans rfl, (blk_cell BK380.out 3).trans rfl⟩ (fun hHeld => ?_)
       clear hK K
       refine norm_ (a' := ?_) ?_ ?_
       rotate_left
       ·show Act.put _ (some 25) _ = _
        simp only [put, setIfInBounds_toArray, set_cons_zero, set_cons_succ, i64_w, i32_w]
        rfl
       refine two_ (i := 4) (j := 8) (Ni := some 26) (Nj := some 8) #[true, true, true, true, true, false, false, false, false, false, false] #[true, true, true, true, false, false, false, false, true, false, false] rfl rfl rfl rfl (two_of HT_.out (by kernel_rfl)) (by decide) (by decide) (fun K hK => ?_) (fun K hK => ?_)
       ·skip
        refine goes_ Try.func105 (by kernel_rfl) rfl #[.agg #[.bool t374, .int .i64 t375, .int .i64 t376], .int .i64 t393] (by rfl) rfl rfl al_ ?_
        with_reducible refine (spec_AddTo.calls t374 t375 t376 t393 t396 t397 t398 false _ A17.out).mono ?_
        rintro e w35 ⟨rfl, hb⟩
        refine ⟨_, rfl, ?_⟩
        have n0_ := Aside0.mk (Kd.R_below (by (with_reducible repeat (first | apply Kd.R_alloc | apply Kd.R_drewN | apply Kd.R_drew)); exact HO_6.out) hb)
        have n1_ := Aside0.mk (blk_below (bk_ BK369.out) hb)
        have n2_ := Aside0.mk (blk_below (bk_ BK380.out) hb)
        have n3_ := Aside0.mk (IsS159.below (by repeat (first | (with_reducible first | exact HI373.out | apply IsS159.alloc | apply IsS159.drewN | apply IsS159.drew | apply IsS159.set_1 | apply IsS159.set_2 | refine IsS159.far ?_ NB373_369.out _ | refine IsS159.far ?_ NB373_380.out _) | exact HI373.out)) hb)
        have n4_ := Aside0.mk (below_step (by repeat (first | (with_reducible first | exact HB.out | apply below_alloc | apply pw_below_drewN | apply below_drew1 | refine below_set ?_ (IsS159.ge HI373.out) | refine below_set ?_ GE369.out | refine below_set ?_ GE380.out) | exact HB.out)) hb)
        clear HO_6
        clear BK369
        clear BK380
        clear HI373
        clear HB
        have HO_6 := n0_
        have BK369 := n1_
        have BK380 := n2_
        have HI373 := n3_
        have HB := n4_
        clear n0_ n1_ n2_ n3_ n4_
        (try clear hb)
        (try clear hb2)
        (try clear hk)
        (try clear hi)
        refine hK.out _ _ ⟨(blk_cell BK380.out 0).trans rfl, (blk_cell BK380.out 1).trans rfl, (blk_cell BK380.out 2).trans rfl, (blk_cell BK380.out 3).trans rfl⟩ (fun hHeld => ?_)
        clear hK K
        refine norm_ (a' := ?_) ?_ ?_
        rotate_left
        ·show Act.put _ (some 26) _ = _
         simp only [put, setIfInBounds_toArray, set_cons_zero, set_cons_succ, i64_w, i32_w]
         rfl
        refine pure_ (i := 5) (N := some 21) (v := ?_) (a' := ?_) #[true, true, true, true, true, true, false, false, false, false, false] rfl rfl (any_of HT_.out (by kernel_rfl)) (fun _ _ _ h => h) (Or.inl ⟨by rfl, ?_⟩) ?_ ?_
        rotate_left
        ·intro w'
         go_simp
         with_reducible rfl
        rotate_left
        ·simp only [put, setIfInBounds_toArray, set_cons_zero, set_cons_succ, i64_w, i32_w]
         rfl
        refine pure_ (i := 6) (N := some 27) (v := ?_) (a' := ?_) #[true, true, true, true, true, true, true, false, false, false, false] rfl rfl (any_of HT_.out (by kernel_rfl)) (fun _ _ _ h => h) (Or.inl ⟨by rfl, ?_⟩) ?_ ?_
        rotate_left
        ·intro w'
         go_simp
         with_reducible rfl
        rotate_left
        ·simp only [put, setIfInBounds_toArray, set_cons_zero, set_cons_succ, i64_w, i32_w]
         rfl
        refine pure_ (i := 7) (N := some 28) (v := ?_) (a' := ?_) #[true, true, true, true, true, true, true, true, false, false, false] rfl rfl (any_of HT_.out (by kernel_rfl)) (fun _ _ _ h => h) (Or.inl ⟨by rfl, ?_⟩) ?_ ?_
        rotate_left
        ·intro w'
         go_simp
         with_reducible rfl
        rotate_left
        ·simp only [put, setIfInBounds_toArray, set_cons_zero, set_cons_succ, i64_w, i32_w]
         rfl
        refine one_ (i := 8) (N := some 8) #[true, true, true, true, true, true, true, true, true, false, false] rfl rfl (one_of HT_.out (by kernel_rfl)) (by decide) (fun K hK => ?_)
        refine box_step ?hg (N := 8) ?hd (cs := #[.bool false, .int .i64 0, .int .i64 0]) (t := 29) ?hr ?_; (case hd => rfl); (case hg => rfl); (case hr => first | (go_simp; done) | (go_simp; rfl))
        intro gb400 hg w36 hbox hb
        have n0_ := Aside0.mk (Kd.R_below (Kd.R_elderB (by (with_reducible repeat (first | apply Kd.R_alloc | apply Kd.R_drewN | apply Kd.R_drew)); exact HO_6.out) gb400 (Nat.le_of_eq hg.symm)) hb)
        have n1_ := Aside0.mk (blk_below (bk_ BK369.out) hb)
        have n2_ := Aside0.mk (blk_below (bk_ BK380.out) hb)
        have n3_ := Aside0.mk (IsS159.below (by repeat (first | (with_reducible first | exact HI373.out | apply IsS159.alloc | apply IsS159.drewN | apply IsS159.drew | apply IsS159.set_1 | apply IsS159.set_2 | refine IsS159.far ?_ NB373_369.out _ | refine IsS159.far ?_ NB373_380.out _) | exact HI373.out)) hb)
        have n4_ := Aside0.mk (below_step (by repeat (first | (with_reducible first | exact HB.out | apply below_alloc | apply pw_below_drewN | apply below_drew1 | refine below_set ?_ (IsS159.ge HI373.out) | refine below_set ?_ GE369.out | refine below_set ?_ GE380.out) | exact HB.out)) hb)
        have n5_ := Aside0.mk (hbox)
        have n6_ := Aside0.mk ((by rw [hg]; exact (below_size (by repeat (first | (with_reducible first | exact HB.out | apply below_alloc | apply pw_below_drewN | apply below_drew1 | refine below_set ?_ (IsS159.ge HI373.out) | refine below_set ?_ GE369.out | refine below_set ?_ GE380.out) | exact HB.out))) : w.heap.size ≤ gb400))
        have n7_ := Aside0.mk ((by rw [hg]; exact (below_size (by repeat (first | (with_reducible first | exact HB.out | apply below_alloc | apply pw_below_drewN | apply below_drew1 | refine below_set ?_ (IsS159.ge HI373.out) | refine below_set ?_ GE369.out | refine below_set ?_ GE380.out) | exact HB.out))) : w.heap.size ≤ gb400))
        have n8_ := bn_ hg (blk_lt (bk_ BK369.out))
        have n9_ := bm_ hg (blk_lt (bk_ BK369.out))
        have n10_ := bn_ hg (blk_lt (bk_ BK380.out))
        have n11_ := bm_ hg (blk_lt (bk_ BK380.out))
        have n12_ := Aside0.mk ((by rw [hg]; exact Nat.ne_of_lt (IsS159.lt (show IsS159 w _ g373 t370 t394 t395 from by repeat (first | (with_reducible first | exact HI373.out | apply IsS159.alloc | apply IsS159.drewN | apply IsS159.drew | apply IsS159.set_1 | apply IsS159.set_2 | refine IsS159.far ?_ NB373_369.out _ | refine IsS159.far ?_ NB373_380.out _) | exact HI373.out))) : g373 ≠ gb400))
        have n13_ := Aside0.mk ((by rw [hg]; exact Nat.ne_of_gt (IsS159.lt (show IsS159 w _ g373 t370 t394 t395 from by repeat (first | (with_reducible first | exact HI373.out | apply IsS159.alloc | apply IsS159.drewN | apply IsS159.drew | apply IsS159.set_1 | apply IsS159.set_2 | refine IsS159.far ?_ NB373_369.out _ | refine IsS159.far ?_ NB373_380.out _) | exact HI373.out))) : gb400 ≠ g373))
        clear HO_6
        clear BK369
        clear BK380
        clear HI373
        clear HB
        have HO_6 := n0_
        have BK369 := n1_
        have BK380 := n2_
        have HI373 := n3_
        have HB := n4_
        have BK400 := n5_
        have GW400 := n6_
        have GE400 := n7_
        have NB369_400 := n8_
        have NB400_369 := n9_
        have NB380_400 := n10_
        have NB400_380 := n11_
        have NB373_400 := n12_
        have NB400_373 := n13_
        clear n0_ n1_ n2_ n3_ n4_ n5_ n6_ n7_ n8_ n9_ n10_ n11_ n12_ n13_
        clear hb hbox hg
        refine hK.out _ _ ⟨(blk_cell BK380.out 0).trans rfl, (blk_cell BK380.out 1).trans rfl, (blk_cell BK380.out 2).trans rfl, (blk_cell BK380.out 3).trans rfl⟩ (fun hHeld => ?_)
        clear hK K
        refine norm_ (a' := ?_) ?_ ?_
        rotate_left
        ·show Act.put _ (some 8) _ = _
         simp only [put, setIfInBounds_toArray, set_cons_zero, set_cons_succ, i64_w, i32_w]
         rfl
        exact norm_ (by simp only [putAll, Act.put, List.setIfInBounds_toArray, List.set_cons_zero, List.set_cons_succ]) (hCont (gb400) _ ⟨hHeld, (by (with_reducible repeat (first | apply Kd.R_alloc | apply Kd.R_drewN | apply Kd.R_drew)); exact Kd.R_mono HO_6.out (fun _ hk => hk.2)), (bk_ BK369.out), (bk_ BK380.out), (bk_ BK400.out), GW400.out, GE400.out, NB373_400.out, NB400_373.out, NB369_400.out, NB400_369.out, NB380_400.out, NB400_380.out, (by repeat (first | (with_reducible first | exact HI373.out | apply IsS159.alloc | apply IsS159.drewN | apply IsS159.drew | apply IsS159.set_1 | apply IsS159.set_2 | refine IsS159.far ?_ NB373_369.out _ | refine IsS159.far ?_ NB373_380.out _ | refine IsS159.far ?_ NB373_400.out _) | exact HI373.out)), (by repeat (first | (with_reducible first | exact HB.out | apply below_alloc | apply pw_below_drewN | apply below_drew1 | refine below_set ?_ (IsS159.ge HI373.out) | refine below_set ?_ GE369.out | refine below_set ?_ GE380.out | refine below_set ?_ GE400.out) | exact HB.out))⟩)
       ·skip
        refine box_step ?hg (N := 8) ?hd (cs := #[.bool false, .int .i64 0, .int .i64 0]) (t := 29) ?hr ?_; (case hd => rfl); (case hg => rfl); (case hr => first | (go_simp; done) | (go_simp; rfl))
        intro gb400 hg w35 hbox hb
        have n0_ := Aside0.mk (Kd.R_below (Kd.R_elderB (by (with_reducible repeat (first | apply Kd.R_alloc | apply Kd.R_drewN | apply Kd.R_drew)); exact HO_6.out) gb400 (Nat.le_of_eq hg.symm)) hb)
        have n1_ := Aside0.mk (blk_below (bk_ BK369.out) hb)
        have n2_ := Aside0.mk (blk_below (bk_ BK380.out) hb)
        have n3_ := Aside0.mk (IsS159.below (by repeat (first | (with_reducible first | exact HI373.out | apply IsS159.alloc | apply IsS159.drewN | apply IsS159.drew | apply IsS159.set_1 | apply IsS159.set_2 | refine IsS159.far ?_ NB373_369.out _ | refine IsS159.far ?_ NB373_380.out _) | exact HI373.out)) hb)
        have n4_ := Aside0.mk (below_step (by repeat (first | (with_reducible first | exact HB.out | apply below_alloc | apply pw_below_drewN | apply below_drew1 | refine below_set ?_ (IsS159.ge HI373.out) | refine below_set ?_ GE369.out | refine below_set ?_ GE380.out) | exact HB.out)) hb)
        have n5_ := Aside0.mk (hbox)
        have n6_ := Aside0.mk ((by rw [hg]; exact (below_size (by repeat (first | (with_reducible first | exact HB.out | apply below_alloc | apply pw_below_drewN | apply below_drew1 | refine below_set ?_ (IsS159.ge HI373.out) | refine below_set ?_ GE369.out | refine below_set ?_ GE380.out) | exact HB.out))) : w.heap.size ≤ gb400))
        have n7_ := Aside0.mk ((by rw [hg]; exact (below_size (by repeat (first | (with_reducible first | exact HB.out | apply below_alloc | apply pw_below_drewN | apply below_drew1 | refine below_set ?_ (IsS159.ge HI373.out) | refine below_set ?_ GE369.out | refine below_set ?_ GE380.out) | exact HB.out))) : w.heap.size ≤ gb400))
        have n8_ := bn_ hg (blk_lt (bk_ BK369.out))
        have n9_ := bm_ hg (blk_lt (bk_ BK369.out))
        have n10_ := bn_ hg (blk_lt (bk_ BK380.out))
        have n11_ := bm_ hg (blk_lt (bk_ BK380.out))
        have n12_ := Aside0.mk ((by rw [hg]; exact Nat.ne_of_lt (IsS159.lt (show IsS159 w _ g373 t370 t394 t395 from by repeat (first | (with_reducible first | exact HI373.out | apply IsS159.alloc | apply IsS159.drewN | apply IsS159.drew | apply IsS159.set_1 | apply IsS159.set_2 | refine IsS159.far ?_ NB373_369.out _ | refine IsS159.far ?_ NB373_380.out _) | exact HI373.out))) : g373 ≠ gb400))
        have n13_ := Aside0.mk ((by rw [hg]; exact Nat.ne_of_gt (IsS159.lt (show IsS159 w _ g373 t370 t394 t395 from by repeat (first | (with_reducible first | exact HI373.out | apply IsS159.alloc | apply IsS159.drewN | apply IsS159.drew | apply IsS159.set_1 | apply IsS159.set_2 | refine IsS159.far ?_ NB373_369.out _ | refine IsS159.far ?_ NB373_380.out _) | exact HI373.out))) : gb400 ≠ g373))
        clear HO_6
        clear BK369
        clear BK380
        clear HI373
        clear HB
        have HO_6 := n0_
        have BK369 := n1_
        have BK380 := n2_
        have HI373 := n3_
        have HB := n4_
        have BK400 := n5_
        have GW400 := n6_
        have GE400 := n7_
        have NB369_400 := n8_
        have NB400_369 := n9_
        have NB380_400 := n10_
        have NB400_380 := n11_
        have NB373_400 := n12_
        have NB400_373 := n13_
        clear n0_ n1_ n2_ n3_ n4_ n5_ n6_ n7_ n8_ n9_ n10_ n11_ n12_ n13_
        clear hb hbox hg
        refine hK.out _ _ ⟨(blk_cell BK380.out 0).trans rfl, (blk_cell BK380.out 1).trans rfl, (blk_cell BK380.out 2).trans rfl, (blk_cell BK380.out 3).trans rfl⟩ (fun hHeld => ?_)
        clear hK K
        refine norm_ (a' := ?_) ?_ ?_
        rotate_left
        ·show Act.put _ (some 8) _ = _
         simp only [put, setIfInBounds_toArray, set_cons_zero, set_cons_succ, i64_w, i32_w]
         rfl
        refine one_ (i := 4) (N := some 26) #[true, true, true, true, true, false, false, false, true, false, false] rfl rfl (one_of HT_.out (by kernel_rfl)) (by decide) (fun K hK => ?_)
        refine goes_ Try.func105 (by kernel_rfl) rfl #[.agg #[.bool t374, .int .i64 t375, .int .i64 t376], .int .i64 t393] (by rfl) rfl rfl al_ ?_
        with_reducible refine (spec_AddTo.calls t374 t375 t376 t393 t396 t397 t398 false _ A17.out).mono ?_
        rintro e w36 ⟨rfl, hb⟩
        refine ⟨_, rfl, ?_⟩
        have n0_ := Aside0.mk (Kd.R_below (by (with_reducible repeat (first | apply Kd.R_alloc | apply Kd.R_drewN | apply Kd.R_drew)); exact HO_6.out) hb)
        have n1_ := Aside0.mk (blk_below (bk_ BK369.out) hb)
        have n2_ := Aside0.mk (blk_below (bk_ BK380.out) hb)
        have n3_ := Aside0.mk (IsS159.below (by repeat (first | (with_reducible first | exact HI373.out | apply IsS159.alloc | apply IsS159.drewN | apply IsS159.drew | apply IsS159.set_1 | apply IsS159.set_2 | refine IsS159.far ?_ NB373_369.out _ | refine IsS159.far ?_ NB373_380.out _ | refine IsS159.far ?_ NB373_400.out _) | exact HI373.out)) hb)
        have n4_ := Aside0.mk (blk_below (bk_ BK400.out) hb)
        have n5_ := Aside0.mk (below_step (by repeat (first | (with_reducible first | exact HB.out | apply below_alloc | apply pw_below_drewN | apply below_drew1 | refine below_set ?_ (IsS159.ge HI373.out) | refine below_set ?_ GE369.out | refine below_set ?_ GE380.out | refine below_set ?_ GE400.out) | exact HB.out)) hb)
        clear HO_6
        clear BK369
        clear BK380
        clear HI373
        clear BK400
        clear HB
        have HO_6 := n0_
        have BK369 := n1_
        have BK380 := n2_
        have HI373 := n3_
        have BK400 := n4_
        have HB := n5_
        clear n0_ n1_ n2_ n3_ n4_ n5_
        (try clear hb)
        (try clear hb2)
        (try clear hk)
        (try clear hi)
        refine hK.out _ _ ⟨(blk_cell BK380.out 0).trans rfl, (blk_cell BK380.out 1).trans rfl, (blk_cell BK380.out 2).trans rfl, (blk_cell BK380.out 3).trans rfl⟩ (fun hHeld => ?_)
        clear hK K
        refine norm_ (a' := ?_) ?_ ?_
        rotate_left
        ·show Act.put _ (some 26) _ = _
         simp only [put, setIfInBounds_toArray, set_cons_zero, set_cons_succ, i64_w, i32_w]
         rfl
        refine pure_ (i := 5) (N := some 21) (v := ?_) (a' := ?_) #[true, true, true, true, true, true, false, false, true, false, false] rfl rfl (any_of HT_.out (by kernel_rfl)) (fun _ _ _ h => h) (Or.inl ⟨by rfl, ?_⟩) ?_ ?_
        rotate_left
        ·intro w'
         go_simp
         with_reducible rfl
        rotate_left
        ·simp only [put, setIfInBounds_toArray, set_cons_zero, set_cons_succ, i64_w, i32_w]
         rfl
        refine pure_ (i := 6) (N := some 27) (v := ?_) (a' := ?_) #[true, true, true, true, true, true, true, false, true, false, false] rfl rfl (any_of HT_.out (by kernel_rfl)) (fun _ _ _ h => h) (Or.inl ⟨by rfl, ?_⟩) ?_ ?_
        rotate_left
        ·intro w'
         go_simp
         with_reducible rfl
        rotate_left
        ·simp only [put, setIfInBounds_toArray, set_cons_zero, set_cons_succ, i64_w, i32_w]
         rfl
        refine pure_ (i := 7) (N := some 28) (v := ?_) (a' := ?_) #[true, true, true, true, true, true, true, true, true, false, false] rfl rfl (any_of HT_.out (by kernel_rfl)) (fun _ _ _ h => h) (Or.inl ⟨by rfl, ?_⟩) ?_ ?_
        rotate_left
        ·intro w'
         go_simp
         with_reducible rfl
        rotate_left
        ·simp only [put, setIfInBounds_toArray, set_cons_zero, set_cons_succ, i64_w, i32_w]
         rfl
        exact norm_ (by simp only [putAll, Act.put, List.setIfInBounds_toArray, List.set_cons_zero, List.set_cons_succ]) (hCont (gb400) _ ⟨hHeld, (by (with_reducible repeat (first | apply Kd.R_alloc | apply Kd.R_drewN | apply Kd.R_drew)); exact Kd.R_mono HO_6.out (fun _ hk => hk.2)), (bk_ BK369.out), (bk_ BK380.out), (bk_ BK400.out), GW400.out, GE400.out, NB373_400.out, NB400_373.out, NB369_400.out, NB400_369.out, NB380_400.out, NB400_380.out, (by repeat (first | (with_reducible first | exact HI373.out | apply IsS159.alloc | apply IsS159.drewN | apply IsS159.drew | apply IsS159.set_1 | apply IsS159.set_2 | refine IsS159.far ?_ NB373_369.out _ | refine IsS159.far ?_ NB373_380.out _ | refine IsS159.far ?_ NB373_400.out _) | exact HI373.out)), (by repeat (first | (with_reducible first | exact HB.out | apply below_alloc | apply pw_below_drewN | apply below_drew1 | refine below_set ?_ (IsS159.ge HI373.out) | refine below_set ?_ GE369.out | refine below_set ?_ GE380.out | refine below_set ?_ GE400.out) | exact HB.out))⟩)
      ·skip
       refine box_step ?hg (N := 8) ?hd (cs := #[.bool false, .int .i64 0, .int .i64 0]) (t := 29) ?hr ?_; (case hd => rfl); (case hg => rfl); (case hr => first | (go_simp; done) | (go_simp; rfl))
       intro gb400 hg w34 hbox hb
       have n0_ := Aside0.mk (Kd.R_below (Kd.R_elderB (by (with_reducible repeat (first | apply Kd.R_alloc | apply Kd.R_drewN | apply Kd.R_drew)); exact HO_6.out) gb400 (Nat.le_of_eq hg.symm)) hb)
       have n1_ := Aside0.mk (blk_below (bk_ BK369.out) hb)
       have n2_ := Aside0.mk (blk_below (bk_ BK380.out) hb)
       have n3_ := Aside0.mk (IsS159.below (by repeat (first | (with_reducible first | exact HI373.out | apply IsS159.alloc | apply IsS159.drewN | apply IsS159.drew | apply IsS159.set_1 | apply IsS159.set_2 | refine IsS159.far ?_ NB373_369.out _ | refine IsS159.far ?_ NB373_380.out _) | exact HI373.out)) hb)
       have n4_ := Aside0.mk (below_step (by repeat (first | (with_reducible first | exact HB.out | apply below_alloc | apply pw_below_drewN | apply below_drew1 | refine below_set ?_ (IsS159.ge HI373.out) | refine below_set ?_ GE369.out | refine below_set ?_ GE380.out) | exact HB.out)) hb)
       have n5_ := Aside0.mk (hbox)
       have n6_ := Aside0.mk ((by rw [hg]; exact (below_size (by repeat (first | (with_reducible first | exact HB.out | apply below_alloc | apply pw_below_drewN | apply below_drew1 | refine below_set ?_ (IsS159.ge HI373.out) | refine below_set ?_ GE369.out | refine below_set ?_ GE380.out) | exact HB.out))) : w.heap.size ≤ gb400))
       have n7_ := Aside0.mk ((by rw [hg]; exact (below_size (by repeat (first | (with_reducible first | exact HB.out | apply below_alloc | apply pw_below_drewN | apply below_drew1 | refine below_set ?_ (IsS159.ge HI373.out) | refine below_set ?_ GE369.out | refine below_set ?_ GE380.out) | exact HB.out))) : w.heap.size ≤ gb400))
       have n8_ := bn_ hg (blk_lt (bk_ BK369.out))
       have n9_ := bm_ hg (blk_lt (bk_ BK369.out))
       have n10_ := bn_ hg (blk_lt (bk_ BK380.out))
       have n11_ := bm_ hg (blk_lt (bk_ BK380.out))
       have n12_ := Aside0.mk ((by rw [hg]; exact Nat.ne_of_lt (IsS159.lt (show IsS159 w _ g373 t370 x374001_1 x374002_1 from by repeat (first | (with_reducible first | exact HI373.out | apply IsS159.alloc | apply IsS159.drewN | apply IsS159.drew | apply IsS159.set_1 | apply IsS159.set_2 | refine IsS159.far ?_ NB373_369.out _ | refine IsS159.far ?_ NB373_380.out _) | exact HI373.out))) : g373 ≠ gb400))
       have n13_ := Aside0.mk ((by rw [hg]; exact Nat.ne_of_gt (IsS159.lt (show IsS159 w _ g373 t370 x374001_1 x374002_1 from by repeat (first | (with_reducible first | exact HI373.out | apply IsS159.alloc | apply IsS159.drewN | apply IsS159.drew | apply IsS159.set_1 | apply IsS159.set_2 | refine IsS159.far ?_ NB373_369.out _ | refine IsS159.far ?_ NB373_380.out _) | exact HI373.out))) : gb400 ≠ g373))
       clear HO_6
       clear BK369
       clear BK380
       clear HI373
       clear HB
       have HO_6 := n0_
       have BK369 := n1_
       have BK380 := n2_
       have HI373 := n3_
       have HB := n4_
       have BK400 := n5_
       have GW400 := n6_
       have GE400 := n7_
       have NB369_400 := n8_
       have NB400_369 := n9_
       have NB380_400 := n10_
       have NB400_380 := n11_
       have NB373_400 := n12_
       have NB400_373 := n13_
       clear n0_ n1_ n2_ n3_ n4_ n5_ n6_ n7_ n8_ n9_ n10_ n11_ n12_ n13_
       clear hb hbox hg
       refine hK.out _ _ ⟨(blk_cell BK380.out 0).trans rfl, (blk_cell BK380.out 1).trans rfl, (blk_cell BK380.out 2).trans rfl, (blk_cell BK380.out 3).trans rfl⟩ (fun hHeld => ?_)
       clear hK K
       refine norm_ (a' := ?_) ?_ ?_
       rotate_left
       ·show Act.put _ (some 8) _ = _
        simp only [put, setIfInBounds_toArray, set_cons_zero, set_cons_succ, i64_w, i32_w]
        rfl
       refine one_ (i := 3) (N := some 25) #[true, true, true, true, false, false, false, false, true, false, false] rfl rfl (one_of HT_.out (by kernel_rfl)) (by decide) (fun K hK => ?_)
       refine goes_ Try.func104 (by kernel_rfl) rfl #[.pointer (some ⟨g373, 0, none⟩), .int .i64 8] (by rfl) rfl rfl al_ ?_
       with_reducible refine (spec_l1Below.calls g373 t370 x374001_1 x374002_1 8 t393 t394 t395 w _ ?side1 ?side2 A16.out).mono ?_
       (case side1 => repeat (first | (with_reducible first | exact HI373.out | apply IsS159.alloc | apply IsS159.drewN | apply IsS159.drew | apply IsS159.set_1 | apply IsS159.set_2 | refine IsS159.far ?_ NB373_369.out _ | refine IsS159.far ?_ NB373_380.out _ | refine IsS159.far ?_ NB373_400.out _) | exact HI373.out))
       (case side2 => repeat (first | (with_reducible first | exact HB.out | apply below_alloc | apply pw_below_drewN | apply below_drew1 | refine below_set ?_ (IsS159.ge HI373.out) | refine below_set ?_ GE369.out | refine below_set ?_ GE380.out | refine below_set ?_ GE400.out) | exact HB.out))
       rintro e w35 ⟨rfl, hi, hb, hk⟩
       refine ⟨_, rfl, ?_⟩
       have n0_ := Aside0.mk (Kd.R_mono (Kd.R_keep (IsS159.apart (show IsS159 w _ g373 t370 x374001_1 x374002_1 from by repeat (first | (with_reducible first | exact HI373.out | apply IsS159.alloc | apply IsS159.drewN | apply IsS159.drew | apply IsS159.set_1 | apply IsS159.set_2 | refine IsS159.far ?_ NB373_369.out _ | refine IsS159.far ?_ NB373_380.out _ | refine IsS159.far ?_ NB373_400.out _) | exact HI373.out)) (by (with_reducible repeat (first | apply Kd.R_alloc | apply Kd.R_drewN | apply Kd.R_drew)); exact HO_6.out) (by decide)) hk (fun _ h => h.2)) (fun _ h => h.1))
       have n1_ := Aside0.mk (KeepBut.blk hk (g' := gb369) (o := .cells #[.bool false, .int .i64 0, .int .i64 0, .int .i64 0] 31 (0, 0)) (bk_ BK369.out) NB369_373.out (by simp))
       have n2_ := Aside0.mk (KeepBut.blk hk (g' := gb380) (o := .cells #[.bool t374, .int .i64 t375, .int .i64 t376, .int .i64 t377] 31 (0, 0)) (bk_ BK380.out) NB380_373.out (by simp))
       have n3_ := Aside0.mk (KeepBut.blk hk (g' := gb400) (o := .cells #[.bool false, .int .i64 0, .int .i64 0] 29 (0, 0)) (bk_ BK400.out) NB400_373.out (by simp))
       have n4_ := Aside0.mk (hb)
       have n5_ := Aside0.mk (hi)
       clear HO_6
       clear BK369
       clear BK380
       clear BK400
       clear HB
       clear HI373
       have HO_6 := n0_
       have BK369 := n1_
       have BK380 := n2_
       have BK400 := n3_
       have HB := n4_
       have HI373 := n5_
       clear n0_ n1_ n2_ n3_ n4_ n5_
       (try clear hb)
       (try clear hb2)
       (try clear hk)
       (try clear hi)
       refine hK.out _ _ ⟨(blk_cell BK380.out 0).trans rfl, (blk_cell BK380.out 1).trans rfl, (blk_cell BK380.out 2).trans rfl, (blk_cell BK380.out 3).trans rfl⟩ (fun hHeld => ?_)
       clear hK K
       refine norm_ (a' := ?_) ?_ ?_
       rotate_left
       ·show Act.put _ (some 25) _ = _
        simp only [put, setIfInBounds_toArray, set_cons_zero, set_cons_succ, i64_w, i32_w]
        rfl
       refine one_ (i := 4) (N := some 26) #[true, true, true, true, true, false, false, false, true, false, false] rfl rfl (one_of HT_.out (by kernel_rfl)) (by decide) (fun K hK => ?_)
       refine goes_ Try.func105 (by kernel_rfl) rfl #[.agg #[.bool t374, .int .i64 t375, .int .i64 t376], .int .i64 t393] (by rfl) rfl rfl al_ ?_
       with_reducible refine (spec_AddTo.calls t374 t375 t376 t393 t396 t397 t398 false _ A17.out).mono ?_
       rintro e w36 ⟨rfl, hb⟩
       refine ⟨_, rfl, ?_⟩
       have n0_ := Aside0.mk (Kd.R_below (by (with_reducible repeat (first | apply Kd.R_alloc | apply Kd.R_drewN | apply Kd.R_drew)); exact HO_6.out) hb)
       have n1_ := Aside0.mk (blk_below (bk_ BK369.out) hb)
       have n2_ := Aside0.mk (blk_below (bk_ BK380.out) hb)
       have n3_ := Aside0.mk (IsS159.below (by repeat (first | (with_reducible first | exact HI373.out | apply IsS159.alloc | apply IsS159.drewN | apply IsS159.drew | apply IsS159.set_1 | apply IsS159.set_2 | refine IsS159.far ?_ NB373_369.out _ | refine IsS159.far ?_ NB373_380.out _ | refine IsS159.far ?_ NB373_400.out _) | exact HI373.out)) hb)
       have n4_ := Aside0.mk (blk_below (bk_ BK400.out) hb)
       have n5_ := Aside0.mk (below_step (by repeat (first | (with_reducible first | exact HB.out | apply below_alloc | apply pw_below_drewN | apply below_drew1 | refine below_set ?_ (IsS159.ge HI373.out) | refine below_set ?_ GE369.out | refine below_set ?_ GE380.out | refine below_set ?_ GE400.out) | exact HB.out)) hb)
       clear HO_6
       clear BK369
       clear BK380
       clear HI373
       clear BK400
       clear HB
       have HO_6 := n0_
       have BK369 := n1_
       have BK380 := n2_
       have HI373 := n3_
       have BK400 := n4_
       have HB := n5_
       clear n0_ n1_ n2_ n3_ n4_ n5_
       (try clear hb)
       (try clear hb2)
       (try clear hk)
       (try clear hi)
       refine hK.out _ _ ⟨(blk_cell BK380.out 0).trans rfl, (blk_cell BK380.out 1).trans rfl, (blk_cell BK380.out 2).trans rfl, (blk_cell BK380.out 3).trans rfl⟩ (fun hHeld => ?_)
       clear hK K
       refine norm_ (a' := ?_) ?_ ?_
       rotate_left
       ·show Act.put _ (some 26) _ = _
        simp only [put, setIfInBounds_toArray, set_cons_zero, set_cons_succ, i64_w, i32_w]
        rfl
       refine pure_ (i := 5) (N := some 21) (v := ?_) (a' := ?_) #[true, true, true, true, true, true, false, false, true, false, false] rfl rfl (any_of HT_.out (by kernel_rfl)) (fun _ _ _ h => h) (Or.inl ⟨by rfl, ?_⟩) ?_ ?_
       rotate_left
       ·intro w'
        go_simp
        with_reducible rfl
       rotate_left
       ·simp only [put, setIfInBounds_toArray, set_cons_zero, set_cons_succ, i64_w, i32_w]
        rfl
       refine pure_ (i := 6) (N := some 27) (v := ?_) (a' := ?_) #[true, true, true, true, true, true, true, false, true, false, false] rfl rfl (any_of HT_.out (by kernel_rfl)) (fun _ _ _ h => h) (Or.inl ⟨by rfl, ?_⟩) ?_ ?_
       rotate_left
       ·intro w'
        go_simp
        with_reducible rfl
       rotate_left
       ·simp only [put, setIfInBounds_toArray, set_cons_zero, set_cons_succ, i64_w, i32_w]
        rfl
       refine pure_ (i := 7) (N := some 28) (v := ?_) (a' := ?_) #[true, true, true, true, true, true, true, true, true, false, false] rfl rfl (any_of HT_.out (by kernel_rfl)) (fun _ _ _ h => h) (Or.inl ⟨by rfl, ?_⟩) ?_ ?_
       rotate_left
       ·intro w'
        go_simp
        with_reducible rfl
       rotate_left
       ·simp only [put, setIfInBounds_toArray, set_cons_zero, set_cons_succ, i64_w, i32_w]
        rfl
       exact norm_ (by simp only [putAll, Act.put, List.setIfInBounds_toArray, List.set_cons_zero, List.set_cons_succ]) (hCont (gb400) _ ⟨hHeld, (by (with_reducible repeat (first | apply Kd.R_alloc | apply Kd.R_drewN | apply Kd.R_drew)); exact Kd.R_mono HO_6.out (fun _ hk => hk.2)), (bk_ BK369.out), (bk_ BK380.out), (bk_ BK400.out), GW400.out, GE400.out, NB373_400.out, NB400_373.out, NB369_400.out, NB400_369.out, NB380_400.out, NB400_380.out, (by repeat (first | (with_reducible first | exact HI373.out | apply IsS159.alloc | apply IsS159.drewN | apply IsS159.drew | apply IsS159.set_1 | apply IsS159.set_2 | refine IsS159.far ?_ NB373_369.out _ | refine IsS159.far ?_ NB373_380.out _ | refine IsS159.far ?_ NB373_400.out _) | exact HI373.out)), (by repeat (first | (with_reducible first | exact HB.out | apply below_alloc | apply pw_below_drewN | apply below_drew1 | refine below_set ?_ (IsS159.ge HI373.out) | refine below_set ?_ GE369.out | refine below_set ?_ GE380.out | refine below_set ?_ GE400.out) | exact HB.out))⟩)
     rintro gb400 w37 ⟨hS_, h0_, h1_, h2_, h3_, h4_, h5_, h6_, h7_, h8_, h9_, h10_, h11_, h12_, h13_⟩
     have n0_ : Aside0 (Kd.R k29 29 w37 w.heap.size (fun k_ => k_ ≠ gb400) u6 x6_1) := ⟨h0_⟩
     have n1_ : Aside0 (w37.heap[gb369]? = some (.cells #[.bool false, .int .i64 0, .int .i64 0, .int .i64 0] 31 (0, 0))) := ⟨h1_⟩
     have n2_ : Aside0 (w37.heap[gb380]? = some (.cells #[.bool t374, .int .i64 t375, .int .i64 t376, .int .i64 t377] 31 (0, 0))) := ⟨h2_⟩
     have n3_ : Aside0 (w37.heap[gb400]? = some (.cells #[.bool false, .int .i64 0, .int .i64 0] 29 (0, 0))) := ⟨h3_⟩
     have n4_ : Aside0 (w.heap.size ≤ gb400) := ⟨h4_⟩
     have n5_ : Aside0 (w.heap.size ≤ gb400) := ⟨h5_⟩
     have n6_ : Aside0 (g373 ≠ gb400) := ⟨h6_⟩
     have n7_ : Aside0 (gb400 ≠ g373) := ⟨h7_⟩
     have n8_ : Aside0 (gb369 ≠ gb400) := ⟨h8_⟩
     have n9_ : Aside0 (gb400 ≠ gb369) := ⟨h9_⟩
     have n10_ : Aside0 (gb380 ≠ gb400) := ⟨h10_⟩
     have n11_ : Aside0 (gb400 ≠ gb380) := ⟨h11_⟩
     have n12_ : Aside0 (IsS159 w w37 g373 t370 t394 t395) := ⟨h12_⟩
     have n13_ : Aside0 (Below w.heap.size w w37) := ⟨h13_⟩
     clear HO_6
     clear BK369
     clear BK380
     clear HI373
     clear HB
     clear h0_ h1_ h2_ h3_ h4_ h5_ h6_ h7_ h8_ h9_ h10_ h11_ h12_ h13_
     have HO_6 := n0_
     have BK369 := n1_
     have BK380 := n2_
     have BK400 := n3_
     have GW400 := n4_
     have GE400 := n5_
     have NB373_400 := n6_
     have NB400_373 := n7_
     have NB369_400 := n8_
     have NB400_369 := n9_
     have NB380_400 := n10_
     have NB400_380 := n11_
     have HI373 := n12_
     have HB := n13_
     clear n0_ n1_ n2_ n3_ n4_ n5_ n6_ n7_ n8_ n9_ n10_ n11_ n12_ n13_
     have hHeld : w37.cell? ⟨gb380, 0, none⟩ = some (.bool t374) ∧ w37.cell? ⟨gb380, 1, none⟩ = some (.int .i64 t375) ∧ w37.cell? ⟨gb380, 2, none⟩ = some (.int .i64 t376) ∧ w37.cell? ⟨gb380, 3, none⟩ = some (.int .i64 t377) := hS_
     refine norm_ (a' := ?_) ?_ ?_
     rotate_left
     ·simp only [putAll, Act.put, List.setIfInBounds_toArray, List.set_cons_zero, List.set_cons_succ]
      rfl
     refine one_ (i := 9) (N := none) #[true, true, true, true, true, true, true, true, true, true, false] rfl rfl (one_of HT_.out (by kernel_rfl)) (by decide) (fun K hK => ?_)
     have hs38 : w37.cell? ⟨gb400, 0, none⟩ = some (.bool false) := (blk_cell BK400.out 0).trans rfl
     have hfs38 := blk_frozen BK400.out 0
     have hns38_0 := NB369_400.out
     have hns38_1 := NB380_400.out
     have hms38_0 := NB400_369.out
     have hms38_1 := NB400_380.out
     have hs39 : w37.cell? ⟨gb400, 1, none⟩ = some (.int .i64 0) := (blk_cell BK400.out 1).trans rfl
     have hfs39 := blk_frozen BK400.out 1
     have hns39_0 := NB369_400.out
     have hns39_1 := NB380_400.out
     have hms39_0 := NB400_369.out
     have hms39_1 := NB400_380.out
     have hs40 : w37.cell? ⟨gb400, 2, none⟩ = some (.int .i64 0) := (blk_cell BK400.out 2).trans rfl
     have hfs40 := blk_frozen BK400.out 2
     have hns40_0 := NB369_400.out
     have hns40_1 := NB380_400.out
     have hms40_0 := NB400_369.out
     have hms40_1 := NB400_380.out
     refine skip_ (w1 := ?_) (by rfl) rfl ?_ ?_
     rotate_left
     ·go_simp
      rfl
     refine hK.out _ _ ⟨((cell_far (p := ⟨gb400, _, none⟩) NB380_400.out _).trans (((cell_far (p := ⟨gb400, _, none⟩) NB380_400.out _).trans (((cell_far (p := ⟨gb400, _, none⟩) NB380_400.out _).trans (hHeld.1)))))), ((cell_far (p := ⟨gb400, _, none⟩) NB380_400.out _).trans (((cell_far (p := ⟨gb400, _, none⟩) NB380_400.out _).trans (((cell_far (p := ⟨gb400, _, none⟩) NB380_400.out _).trans (hHeld.2.1)))))), ((cell_far (p := ⟨gb400, _, none⟩) NB380_400.out _).trans (((cell_far (p := ⟨gb400, _, none⟩) NB380_400.out _).trans (((cell_far (p := ⟨gb400, _, none⟩) NB380_400.out _).trans (hHeld.2.2.1)))))), ((cell_far (p := ⟨gb400, _, none⟩) NB380_400.out _).trans (((cell_far (p := ⟨gb400, _, none⟩) NB380_400.out _).trans (((cell_far (p := ⟨gb400, _, none⟩) NB380_400.out _).trans (hHeld.2.2.2))))))⟩ (fun hHeld => ?_)
     clear hK K
     refine pure_ (i := 10) (N := some 9) (v := ?_) (a' := ?_) #[true, true, true, true, true, true, true, true, true, true, true] rfl rfl (any_of HT_.out (by kernel_rfl)) (fun _ _ _ h => h) (Or.inl ⟨by rfl, ?_⟩) ?_ ?_
     rotate_left
     ·intro w'
      go_simp
      with_reducible rfl
     rotate_left
     ·simp only [put, setIfInBounds_toArray, set_cons_zero, set_cons_succ, i64_w, i32_w]
      rfl
     refine done_ (done_of HT_.out (by kernel_rfl)) ?_
     try go_wp2
     go_roundg k1
     case measure => have := HK1.out; omega
     case rel => exact ⟨(x6_1), (wrap64 (x7_1 - 1)), (t394), (t395), (by first | rfl | (simp; done) | (simp [*]; done)), H', ⟨by have := HK1.out; omega⟩, ⟨by (with_reducible repeat (first | apply Kd.R_alloc | apply Kd.R_drewN | apply Kd.R_drew)); exact Kd.R_mono (Kd.R_far (p := ⟨gb400, 2, none⟩) (Kd.R_far (p := ⟨gb400, 1, none⟩) (Kd.R_far (p := ⟨gb400, 0, none⟩) (Kd.R_mono HO_6.out (fun k_ hk => (⟨hk, hk⟩ : _ ∧ k_ ≠ gb400))) (fun _ hk => hk.2) (.bool t396)) (fun _ hk => hk.2) (.int .i64 t397)) (fun _ hk => hk.2) (.int .i64 t398)) (fun _ hk => trivial)⟩, ⟨by refine bk_ ?_; refine blk_far ?_ NB369_400.out _; refine bk_ ?_; refine blk_far ?_ NB369_400.out _; refine bk_ ?_; refine blk_far ?_ NB369_400.out _; refine bk_ ?_; exact BK369.out⟩, ⟨by refine bk_ ?_; refine blk_far ?_ NB380_400.out _; refine bk_ ?_; refine blk_far ?_ NB380_400.out _; refine bk_ ?_; refine blk_far ?_ NB380_400.out _; refine bk_ ?_; exact BK380.out⟩, ⟨by repeat (first | (with_reducible first | exact HI373.out | apply IsS159.alloc | apply IsS159.drewN | apply IsS159.drew | apply IsS159.set_1 | apply IsS159.set_2 | refine IsS159.far ?_ NB373_369.out _ | refine IsS159.far ?_ NB373_380.out _ | refine IsS159.far ?_ NB373_400.out _) | exact HI373.out)⟩, ⟨by repeat (first | (with_reducible first | exact HB.out | apply below_alloc | apply pw_below_drewN | apply below_drew1 | refine below_set ?_ (IsS159.ge HI373.out) | refine below_set ?_ GE369.out | refine below_set ?_ GE380.out | refine below_set ?_ GE400.out) | exact HB.out)⟩⟩
   ·rw [if_neg c15] at H
    have c15b0 : decide (0 < x7_1) = false := decide_eq_false c15
    clear c15
    replace H := Option.bind_eq_some_iff.mp H
    obtain ⟨⟨t387, t388, t389⟩, A410, H⟩ := H
    replace H : (if t387 = true then (if 301 ≤ 11728124029610 then (some (t374, t375, t376, t377, (List.replicate 301 z29))) else (none)) else (some (t374, t375, t376, t377, x6_1))) = some (r1, r2, r3, r4, r5) := H
    have A41 := Aside0.mk A410
    clear A410
    by_cases c42 : t387 = true
    ·subst c42
     have H1 : (if 301 ≤ 11728124029610 then (some (t374, t375, t376, t377, (List.replicate 301 z29))) else (none)) = some (r1, r2, r3, r4, r5) := by rw [if_pos rfl] at H; exact H
     clear H
     have H := H1
     clear H1
     by_cases c43 : 301 ≤ 11728124029610
     ·rw [if_pos c43] at H
      have c43b0 := eq_true c43
      have c43b1 : decide (301 ≤ 11728124029610) = true := decide_eq_true c43
      clear c43
      obtain ⟨y390, hy390⟩ : ∃ y_ : List (S29), y_ = (List.replicate 301 z29) := ⟨_, rfl⟩
      replace H : (some (t374, t375, t376, t377, y390)) = some (r1, r2, r3, r4, r5) := by first | (rw [hy390]; with_reducible exact H) | (have H2_ := (Option.bind_some _ _).symm.trans H; rw [hy390]; with_reducible exact H2_) | (have H2_ := (Option.bind_some _ _).symm.trans H; with_reducible exact H2_) | with_reducible exact H | (rw [hy390]; exact H) | exact H
      have Ny390 := Aside0.mk hy390
      clear hy390
      simp only [Option.some.injEq, Prod.mk.injEq] at H
      obtain ⟨rfl, rfl, rfl, rfl, rfl⟩ := H
      go_wp2_with (first | ((with_reducible refine gate_callee (f := 106) rfl ?_); refine goesL_ (some 35) rfl rfl Try.func106 (by kernel_rfl) rfl #[.pointer (some ⟨g373, 0, none⟩), .int .i64 40] rfl al_ ?_; (with_reducible refine (spec_l1Once.calls g373 t370 x374001_1 x374002_1 40 true t388 t389 w _ ?side1 ?side2 A41.out).mono ?_); (case side1 => repeat (first | (with_reducible first | exact HI373.out | apply IsS159.alloc | apply IsS159.drewN | apply IsS159.drew | apply IsS159.set_1 | apply IsS159.set_2 | refine IsS159.far ?_ NB373_369.out _ | refine IsS159.far ?_ NB373_380.out _) | exact HI373.out)); (case side2 => repeat (first | (with_reducible first | exact HB.out | apply below_alloc | apply pw_below_drewN | apply below_drew1 | refine below_set ?_ (IsS159.ge HI373.out) | refine below_set ?_ GE369.out | refine below_set ?_ GE380.out) | exact HB.out)); rintro e w44 ⟨rfl, hi, hb, hk⟩; refine ⟨_, rfl, ?_⟩; have n0_ := Aside0.mk (Kd.R_mono (Kd.R_keep (IsS159.apart (show IsS159 w _ g373 t370 x374001_1 x374002_1 from by repeat (first | (with_reducible first | exact HI373.out | apply IsS159.alloc | apply IsS159.drewN | apply IsS159.drew | apply IsS159.set_1 | apply IsS159.set_2 | refine IsS159.far ?_ NB373_369.out _ | refine IsS159.far ?_ NB373_380.out _) | exact HI373.out)) (by (with_reducible repeat (first | apply Kd.R_alloc | apply Kd.R_drewN | apply Kd.R_drew)); exact HO_6.out) (by decide)) hk (fun _ h => h.2)) (fun _ h => h.1)); have n1_ := Aside0.mk (KeepBut.blk hk (g' := gb369) (o := .cells #[.bool false, .int .i64 0, .int .i64 0, .int .i64 0] 31 (0, 0)) (bk_ BK369.out) NB369_373.out (by simp)); have n2_ := Aside0.mk (KeepBut.blk hk (g' := gb380) (o := .cells #[.bool t374, .int .i64 t375, .int .i64 t376, .int .i64 t377] 31 (0, 0)) (bk_ BK380.out) NB380_373.out (by simp)); have n3_ := Aside0.mk (hb); have n4_ := Aside0.mk (hi); clear HO_6; clear BK369; clear BK380; clear HB; clear HI373; have HO_6 := n0_; have BK369 := n1_; have BK380 := n2_; have HB := n3_; have HI373 := n4_; clear n0_ n1_ n2_ n3_ n4_; (try clear hb); (try clear hb2); (try clear hk); (try clear hi)) | ((with_reducible refine gate_dst (N := 36) rfl ?_); refine Kd.R_make k29 _ 29 rfl (N := 36) rfl 46 _ _ rfl 301 rfl rfl Try.underlying46 (.agg #[(.bool false), (.int .i64 0), (.int .i64 0)]) 24 info29 rfl (by decide) (by omega) z29 (ok := fun _ => True) (okp := fun _ => True) (k29_mkM _ _ _ z29 ) (fun _ hk => hk) trivial (by omega) (by omega) (Below.refl _ _) (Nat.le_refl _) ?_; intro v391 w45 ho46 hb hg_ hnew_; clear hg_ hnew_; (first | rw [← Ny390.out] at ho46 | (simp only [Int.reduceToNat] at ho46; rw [← Ny390.out] at ho46)); have n0_ := Aside0.mk (Kd.R_elder' (by (with_reducible repeat (first | apply Kd.R_alloc | apply Kd.R_drewN | apply Kd.R_drew)); exact HO_6.out) (Kd.R_base ho46) hb); have n1_ := Aside0.mk (Kd.R_lower (Kd.R_new' ho46 (Kd.R_lt (by (with_reducible repeat (first | apply Kd.R_alloc | apply Kd.R_drewN | apply Kd.R_drew)); exact HO_6.out))) (below_size (by repeat (first | (with_reducible first | exact HB.out | apply below_alloc | apply pw_below_drewN | apply below_drew1 | refine below_set ?_ (IsS159.ge HI373.out) | refine below_set ?_ GE369.out | refine below_set ?_ GE380.out) | exact HB.out)))); have n2_ := Aside0.mk (blk_below (bk_ BK369.out) hb); have n3_ := Aside0.mk (blk_below (bk_ BK380.out) hb); have n4_ := Aside0.mk (IsS159.below (by repeat (first | (with_reducible first | exact HI373.out | apply IsS159.alloc | apply IsS159.drewN | apply IsS159.drew | apply IsS159.set_1 | apply IsS159.set_2 | refine IsS159.far ?_ NB373_369.out _ | refine IsS159.far ?_ NB373_380.out _) | exact HI373.out)) hb); have n5_ := Aside0.mk (below_step (by repeat (first | (with_reducible first | exact HB.out | apply below_alloc | apply pw_below_drewN | apply below_drew1 | refine below_set ?_ (IsS159.ge HI373.out) | refine below_set ?_ GE369.out | refine below_set ?_ GE380.out) | exact HB.out)) hb); clear HO_6; clear BK369; clear BK380; clear HI373; clear HB; have HO_6 := n0_; have HO392 := n1_; have BK369 := n2_; have BK380 := n3_; have HI373 := n4_; have HB := n5_; clear n0_ n1_ n2_ n3_ n4_ n5_; clear hb ho46; have hnb47 := NB380_369.out; have hnc47 := NB369_380.out; have hnb48 := NB380_373.out; have hnc48 := NB373_380.out; obtain ⟨hcz49_0, hcz49_1, hcz49_2, hcz49_3, hfz49_0, hfz49_1, hfz49_2, hfz49_3⟩ := bc4_ BK380.out; have hnb50 := NB369_373.out; have hnc50 := NB373_369.out; obtain ⟨hcz51_0, hcz51_1, hcz51_2, hcz51_3, hfz51_0, hfz51_1, hfz51_2, hfz51_3⟩ := bc4_ BK369.out))
      refine bodyPost_ret (results_ct rfl _ _ gb369 31 #[.bool t374, .int .i64 t375, .int .i64 t376, .int .i64 t377] (0, 0) _ rfl (by refine bk_ ?_; refine blk_put (cs := #[.bool t374, .int .i64 t375, .int .i64 t376, .int .i64 0]) ?_ 3 _ rfl; refine bk_ ?_; refine blk_put (cs := #[.bool t374, .int .i64 t375, .int .i64 0, .int .i64 0]) ?_ 2 _ rfl; refine bk_ ?_; refine blk_put (cs := #[.bool t374, .int .i64 0, .int .i64 0, .int .i64 0]) ?_ 1 _ rfl; refine bk_ ?_; refine blk_put (cs := #[.bool false, .int .i64 0, .int .i64 0, .int .i64 0]) ?_ 0 _ rfl; refine bk_ ?_; exact BK369.out) Try.underlying31 rfl (by kernel_rfl)) rfl ?_
      exact ⟨_, by first | rfl | (simp [errW_none, errW_some] <;> rfl) | (simp [*, errW_none, errW_some] <;> rfl), by (with_reducible repeat (first | apply Kd.R_alloc | apply Kd.R_drewN | apply Kd.R_drew)); exact Kd.R_mono (Kd.R_far (p := ⟨gb369, 3, none⟩) (Kd.R_far (p := ⟨gb369, 2, none⟩) (Kd.R_far (p := ⟨gb369, 1, none⟩) (Kd.R_far (p := ⟨gb369, 0, none⟩) (Kd.R_types HO392.out BK369.out (by decide)) (fun _ hk => hk.2) (.bool t374)) (fun _ hk => hk.2) (.int .i64 t375)) (fun _ hk => hk.2) (.int .i64 t376)) (fun _ hk => hk.2) (.int .i64 t377)) (fun _ hk => trivial), by repeat (first | (with_reducible first | exact HB.out | apply below_alloc | apply pw_below_drewN | apply below_drew1 | refine below_set ?_ (IsS159.ge HI373.out) | refine below_set ?_ GE369.out | refine below_set ?_ GE380.out) | exact HB.out)⟩
     ·rw [if_neg c43] at H
      exact absurd H (by simp)
    ·replace c42 := Bool.eq_false_iff.mpr c42
     subst c42
     have H1 : (some (t374, t375, t376, t377, x6_1)) = some (r1, r2, r3, r4, r5) := by rw [if_neg (show ¬ (false = true) by decide)] at H; exact H
     clear H
     have H := H1
     clear H1
     simp only [Option.some.injEq, Prod.mk.injEq] at H
     obtain ⟨rfl, rfl, rfl, rfl, rfl⟩ := H
     go_wp2_with (first | ((with_reducible refine gate_callee (f := 106) rfl ?_); refine goesL_ (some 35) rfl rfl Try.func106 (by kernel_rfl) rfl #[.pointer (some ⟨g373, 0, none⟩), .int .i64 40] rfl al_ ?_; (with_reducible refine (spec_l1Once.calls g373 t370 x374001_1 x374002_1 40 false t388 t389 w _ ?side1 ?side2 A41.out).mono ?_); (case side1 => repeat (first | (with_reducible first | exact HI373.out | apply IsS159.alloc | apply IsS159.drewN | apply IsS159.drew | apply IsS159.set_1 | apply IsS159.set_2 | refine IsS159.far ?_ NB373_369.out _ | refine IsS159.far ?_ NB373_380.out _) | exact HI373.out)); (case side2 => repeat (first | (with_reducible first | exact HB.out | apply below_alloc | apply pw_below_drewN | apply below_drew1 | refine below_set ?_ (IsS159.ge HI373.out) | refine below_set ?_ GE369.out | refine below_set ?_ GE380.out) | exact HB.out)); rintro e w52 ⟨rfl, hi, hb, hk⟩; refine ⟨_, rfl, ?_⟩; have n0_ := Aside0.mk (Kd.R_mono (Kd.R_keep (IsS159.apart (show IsS159 w _ g373 t370 x374001_1 x374002_1 from by repeat (first | (with_reducible first | exact HI373.out | apply IsS159.alloc | apply IsS159.drewN | apply IsS159.drew | apply IsS159.set_1 | apply IsS159.set_2 | refine IsS159.far ?_ NB373_369.out _ | refine IsS159.far ?_ NB373_380.out _) | exact HI373.out)) (by (with_reducible repeat (first | apply Kd.R_alloc | apply Kd.R_drewN | apply Kd.R_drew)); exact HO_6.out) (by decide)) hk (fun _ h => h.2)) (fun _ h => h.1)); have n1_ := Aside0.mk (KeepBut.blk hk (g' := gb369) (o := .cells #[.bool false, .int .i64 0, .int .i64 0, .int .i64 0] 31 (0, 0)) (bk_ BK369.out) NB369_373.out (by simp)); have n2_ := Aside0.mk (KeepBut.blk hk (g' := gb380) (o := .cells #[.bool t374, .int .i64 t375, .int .i64 t376, .int .i64 t377] 31 (0, 0)) (bk_ BK380.out) NB380_373.out (by simp)); have n3_ := Aside0.mk (hb); have n4_ := Aside0.mk (hi); clear HO_6; clear BK369; clear BK380; clear HB; clear HI373; have HO_6 := n0_; have BK369 := n1_; have BK380 := n2_; have HB := n3_; have HI373 := n4_; clear n0_ n1_ n2_ n3_ n4_; (try clear hb); (try clear hb2); (try clear hk); (try clear hi); have hnb53 := NB380_369.out; have hnc53 := NB369_380.out; have hnb54 := NB380_373.out; have hnc54 := NB373_380.out; obtain ⟨hcz55_0, hcz55_1, hcz55_2, hcz55_3, hfz55_0, hfz55_1, hfz55_2, hfz55_3⟩ := bc4_ BK380.out; have hnb56 := NB369_373.out; have hnc56 := NB373_369.out; obtain ⟨hcz57_0, hcz57_1, hcz57_2, hcz57_3, hfz57_0, hfz57_1, hfz57_2, hfz57_3⟩ := bc4_ BK369.out))
     refine bodyPost_ret (results_ct rfl _ _ gb369 31 #[.bool t374, .int .i64 t375, .int .i64 t376, .int .i64 t377] (0, 0) _ rfl (by refine bk_ ?_; refine blk_put (cs := #[.bool t374, .int .i64 t375, .int .i64 t376, .int .i64 0]) ?_ 3 _ rfl; refine bk_ ?_; refine blk_put (cs := #[.bool t374, .int .i64 t375, .int .i64 0, .int .i64 0]) ?_ 2 _ rfl; refine bk_ ?_; refine blk_put (cs := #[.bool t374, .int .i64 0, .int .i64 0, .int .i64 0]) ?_ 1 _ rfl; refine bk_ ?_; refine blk_put (cs := #[.bool false, .int .i64 0, .int .i64 0, .int .i64 0]) ?_ 0 _ rfl; refine bk_ ?_; exact BK369.out) Try.underlying31 rfl (by kernel_rfl)) rfl ?_
     exact ⟨_, by first | rfl | (simp [errW_none, errW_some] <;> rfl) | (simp [*, errW_none, errW_some] <;> rfl), by (with_reducible repeat (first | apply Kd.R_alloc | apply Kd.R_drewN | apply Kd.R_drew)); exact Kd.R_mono (Kd.R_far (p := ⟨gb369, 3, none⟩) (Kd.R_far (p := ⟨gb369, 2, none⟩) (Kd.R_far (p := ⟨gb369, 1, none⟩) (Kd.R_far (p := ⟨gb369, 0, none⟩) (Kd.R_types HO_6.out BK369.out (by decide)) (fun _ hk => hk.2) (.bool t374)) (fun _ hk => hk.2) (.int .i64 t375)) (fun _ hk => hk.2) (.int .i64 t376)) (fun _ hk => hk.2) (.int .i64 t377)) (fun _ hk => trivial), by repeat (first | (with_reducible first | exact HB.out | apply below_alloc | apply pw_below_drewN | apply below_drew1 | refine below_set ?_ (IsS159.ge HI373.out) | refine below_set ?_ GE369.out | refine below_set ?_ GE380.out) | exact HB.out)⟩

end Go.Proofs.Ythakdhdoeejkmaa.QFnFirstAddr
