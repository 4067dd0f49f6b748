-- Written by a program of this session (wip/myprint.py); Lean checks it.
import Derived.Test.YthakdhdoeejkmaaQFnHalvedx0
import Derived.Test.YthakdhdoeejkmaaQFnHalvedx4
import Derived.Test.YthakdhdoeejkmaaQFnHalvedx5
import Derived.Test.YthakdhdoeejkmaaQFnHalvedx6
namespace Go.Proofs.Ythakdhdoeejkmaa.QFnHalved
open Go.RowKit Go.Proofs.YthakdhdoeejkmaaW.PrintWords Go.Proofs.YthakdhdoeejkmaaW.PrintLast Go.Proofs.YthakdhdoeejkmaaW.PrintMore
open Act (put)
open List (setIfInBounds_toArray set_cons_zero set_cons_succ)
attribute [local go_sem] max2_int min2_int max_two min_two max_three min_three max_four min_four   -- for this text's walks alone
set_option linter.unusedVariables false
set_option linter.unusedSimpArgs false

attribute [local go_sem] isSome_setCell
/-! ### impl_Sibling: function 40 -/
def impl_Sibling.f (a0_0 : Bool) (a0_1 : Int) (a0_2 : Int) (a0_3 : Int) : Option (Bool × Int × Int × Int × Bool) := (impl_PrefixOk.f a0_0 a0_1 a0_2 a0_3).bind fun t347 => (if t347 = true then (if a0_3 = 0 then (some (false, 0, 0, 0, false)) else ((impl_flipped.f a0_0 a0_1 a0_2 a0_3).bind fun bt348 => (some (bt348.1, bt348.2.1, bt348.2.2, a0_3, true)))) else (some (false, 0, 0, 0, false)))
def impl_Sibling.T3 : Bool × List (List Nat × List Nat) := (true, [([], []), ([0], [0]), ([], []), ([2], [2]), ([1, 3], [1, 3]), ([], []), ([5], [5]), ([4, 6], [4, 6]), ([7, 4, 0, 1, 2, 3, 4, 5, 6, 7], [7]), ([8, 0, 1, 2, 3, 4, 5, 6, 7, 8], [])])
def impl_Sibling.B3 : List Nat := [0, 1, 0, 4, 15, 0, 32, 127, 255, 511]
theorem impl_Sibling.tab3 : rtab .any (opsOf Try.f40 3) = impl_Sibling.T3 := by kernel_rfl
theorem impl_Sibling.bits3 : waitsOk impl_Sibling.T3.2 impl_Sibling.B3 = true := by kernel_rfl
set_option maxHeartbeats 8000000 in
set_option maxRecDepth 100000 in
theorem impl_Sibling.calls (a0_0 : Bool) (a0_1 : Int) (a0_2 : Int) (a0_3 : Int) (r1 : Bool) (r2 : Int) (r3 : Int) (r4 : Int) (r5 : Bool) (w : World) (h : impl_Sibling.f a0_0 a0_1 a0_2 a0_3 = some (r1, r2, r3, r4, r5)) :
  Calls Try.prog 40 #[.agg #[.bool a0_0, .int .i64 a0_1, .int .i64 a0_2, .int .i64 a0_3]] w fun e w' => e = .returned (.tuple #[.agg #[.bool r1, .int .i64 r2, .int .i64 r3, .int .i64 r4], .bool r5]) ∧ Below w.heap.size w w' := by
 have hu31 := Try.underlying31
 have hu29 := Try.underlying29
 have HB := Aside0.mk (Below.refl w.heap.size w)
 have H : ((impl_PrefixOk.f a0_0 a0_1 a0_2 a0_3).bind fun t347 => (if t347 = true then (if a0_3 = 0 then (some (false, 0, 0, 0, false)) else ((impl_flipped.f a0_0 a0_1 a0_2 a0_3).bind fun bt348 => (some (bt348.1, bt348.2.1, bt348.2.2, a0_3, true)))) else (some (false, 0, 0, 0, false)))) = some (r1, r2, r3, r4, r5) := h
 clear h
 replace H := Option.bind_eq_some_iff.mp H
 obtain ⟨t347, A20, H⟩ := H
 replace H : (if t347 = true then (if a0_3 = 0 then (some (false, 0, 0, 0, false)) else ((impl_flipped.f a0_0 a0_1 a0_2 a0_3).bind fun bt348 => (some (bt348.1, bt348.2.1, bt348.2.2, a0_3, true)))) else (some (false, 0, 0, 0, false))) = some (r1, r2, r3, r4, r5) := H
 have A2 := Aside0.mk A20
 clear A20
 by_cases c3 : t347 = true
 ·subst c3
  have H1 : (if a0_3 = 0 then (some (false, 0, 0, 0, false)) else ((impl_flipped.f a0_0 a0_1 a0_2 a0_3).bind fun bt348 => (some (bt348.1, bt348.2.1, bt348.2.2, a0_3, true)))) = some (r1, r2, r3, r4, r5) := by rw [if_pos rfl] at H; exact H
  clear H
  have H := H1
  clear H1
  by_cases c4 : a0_3 = 0
  ·rw [if_pos c4] at H
   have c4b0 : (a0_3 == 0) = true := beq_iff_eq.mpr c4
   have c4b1 : (a0_3 != 0) = false := bne_eq_false_iff_eq.mpr c4
   clear c4
   simp only [Option.some.injEq, Prod.mk.injEq] at H
   obtain ⟨rfl, rfl, rfl, rfl, rfl⟩ := H
   go_enter Try.func40, Try.ntmps40
   go_wp2_with (first | ((with_reducible refine gate_dst (N := 1) rfl ?_); refine box_event ?hg (N := 1) ?hd (cs := #[.bool a0_0, .int .i64 a0_1, .int .i64 a0_2, .int .i64 a0_3]) (t := 31) ?hr ?_; (case hd => rfl); (case hg => rfl); (case hr => first | (go_simp; done) | (go_simp; rfl)); intro gb345 hg w5 hbox hb; have n0_ := Aside0.mk (below_step (hb_ HB.out) hb); have n1_ := Aside0.mk (hbox); have n2_ := bg_ hg (below_size (hb_ HB.out)); have n3_ := bg_ hg (below_size (hb_ HB.out)); clear HB; have HB := n0_; have BK345 := n1_; have GW345 := n2_; have GE345 := n3_; clear n0_ n1_ n2_ n3_; clear hb hbox hg) | ((with_reducible refine gate_dst (N := 2) rfl ?_); refine box_event ?hg (N := 2) ?hd (cs := #[.bool false, .int .i64 0, .int .i64 0, .int .i64 0]) (t := 31) ?hr ?_; (case hd => rfl); (case hg => rfl); (case hr => first | (go_simp; done) | (go_simp; rfl)); intro gb346 hg w6 hbox hb; have n0_ := Aside0.mk (blk_below (bk_ BK345.out) hb); have n1_ := Aside0.mk (below_step (hc_ HB.out GE345.out) hb); have n2_ := Aside0.mk (hbox); have n3_ := bg_ hg (below_size (hc_ HB.out GE345.out)); have n4_ := bg_ hg (below_size (hc_ HB.out GE345.out)); have n5_ := bn_ hg (blk_lt (bk_ BK345.out)); have n6_ := bm_ hg (blk_lt (bk_ BK345.out)); clear BK345; clear HB; have BK345 := n0_; have HB := n1_; have BK346 := n2_; have GW346 := n3_; have GE346 := n4_; have NB345_346 := n5_; have NB346_345 := n6_; clear n0_ n1_ n2_ n3_ n4_ n5_ n6_; clear hb hbox hg; have hnb7 := NB345_346.out; have hnc7 := NB346_345.out; obtain ⟨hcz8_0, hcz8_1, hcz8_2, hcz8_3, hfz8_0, hfz8_1, hfz8_2, hfz8_3⟩ := bc4_ BK345.out) | ((with_reducible refine gate_callee (f := 38) rfl ?_); refine goesL_ (some 5) rfl rfl Try.func38 (by kernel_rfl) rfl #[.agg #[.bool a0_0, .int .i64 a0_1, .int .i64 a0_2, .int .i64 a0_3]] rfl al_ ?_; (with_reducible refine (impl_PrefixOk.calls a0_0 a0_1 a0_2 a0_3 true _ A2.out).mono ?_); rintro e w9 ⟨rfl, hb⟩; refine ⟨_, rfl, ?_⟩; have n0_ := Aside0.mk (blk_below (bk_ BK345.out) hb); have n1_ := Aside0.mk (blk_below (bk_ BK346.out) hb); have n2_ := Aside0.mk (below_step (hd_ HB.out GE345.out GE346.out) hb); clear BK345; clear BK346; clear HB; have BK345 := n0_; have BK346 := n1_; have HB := n2_; clear n0_ n1_ n2_; (try clear hb); (try clear hb2); (try clear hk); (try clear hi); obtain ⟨hcz10_0, hcz10_1, hcz10_2, hcz10_3, hfz10_0, hfz10_1, hfz10_2, hfz10_3⟩ := bc4_ BK345.out; obtain ⟨hcz11_0, hcz11_1, hcz11_2, hcz11_3, hfz11_0, hfz11_1, hfz11_2, hfz11_3⟩ := bc4_ BK346.out))
   refine bodyPost_ret (results_ct rfl _ _ gb346 31 #[.bool false, .int .i64 0, .int .i64 0, .int .i64 0] (0, 0) _ rfl (by refine bk_ ?_; refine blk_put (cs := #[.bool false, .int .i64 0, .int .i64 0, .int .i64 0]) ?_ 3 _ rfl; refine bk_ ?_; refine blk_put (cs := #[.bool false, .int .i64 0, .int .i64 0, .int .i64 0]) ?_ 2 _ rfl; refine bk_ ?_; refine blk_put (cs := #[.bool false, .int .i64 0, .int .i64 0, .int .i64 0]) ?_ 1 _ rfl; refine bk_ ?_; refine blk_put (cs := #[.bool false, .int .i64 0, .int .i64 0, .int .i64 0]) ?_ 0 _ rfl; refine bk_ ?_; exact BK346.out) Try.underlying31 rfl (by kernel_rfl)) rfl ?_
   exact ⟨pe_, hd_ HB.out GE345.out GE346.out⟩
  ·rw [if_neg c4] at H
   have c4b0 : (a0_3 == 0) = false := beq_eq_false_iff_ne.mpr c4
   have c4b1 : (a0_3 != 0) = true := bne_iff_ne.mpr c4
   replace H := Option.bind_eq_some_iff.mp H
   obtain ⟨⟨t348, t349, t350⟩, A120, H⟩ := H
   replace H : (some (t348, t349, t350, a0_3, true)) = some (r1, r2, r3, r4, r5) := H
   have A12 := Aside0.mk A120
   clear A120
   simp only [Option.some.injEq, Prod.mk.injEq] at H
   obtain ⟨rfl, rfl, rfl, rfl, rfl⟩ := H
   go_enter Try.func40, Try.ntmps40
   try go_wp2_with (first | ((with_reducible refine gate_dst (N := 1) rfl ?_); refine box_event ?hg (N := 1) ?hd (cs := #[.bool a0_0, .int .i64 a0_1, .int .i64 a0_2, .int .i64 a0_3]) (t := 31) ?hr ?_; (case hd => rfl); (case hg => rfl); (case hr => first | (go_simp; done) | (go_simp; rfl)); intro gb345 hg w13 hbox hb; have n0_ := Aside0.mk (below_step (hb_ HB.out) hb); have n1_ := Aside0.mk (hbox); have n2_ := bg_ hg (below_size (hb_ HB.out)); have n3_ := bg_ hg (below_size (hb_ HB.out)); clear HB; have HB := n0_; have BK345 := n1_; have GW345 := n2_; have GE345 := n3_; clear n0_ n1_ n2_ n3_; clear hb hbox hg) | ((with_reducible refine gate_dst (N := 2) rfl ?_); refine box_event ?hg (N := 2) ?hd (cs := #[.bool false, .int .i64 0, .int .i64 0, .int .i64 0]) (t := 31) ?hr ?_; (case hd => rfl); (case hg => rfl); (case hr => first | (go_simp; done) | (go_simp; rfl)); intro gb346 hg w14 hbox hb; have n0_ := Aside0.mk (blk_below (bk_ BK345.out) hb); have n1_ := Aside0.mk (below_step (hc_ HB.out GE345.out) hb); have n2_ := Aside0.mk (hbox); have n3_ := bg_ hg (below_size (hc_ HB.out GE345.out)); have n4_ := bg_ hg (below_size (hc_ HB.out GE345.out)); have n5_ := bn_ hg (blk_lt (bk_ BK345.out)); have n6_ := bm_ hg (blk_lt (bk_ BK345.out)); clear BK345; clear HB; have BK345 := n0_; have HB := n1_; have BK346 := n2_; have GW346 := n3_; have GE346 := n4_; have NB345_346 := n5_; have NB346_345 := n6_; clear n0_ n1_ n2_ n3_ n4_ n5_ n6_; clear hb hbox hg; have hnb15 := NB345_346.out; have hnc15 := NB346_345.out; obtain ⟨hcz16_0, hcz16_1, hcz16_2, hcz16_3, hfz16_0, hfz16_1, hfz16_2, hfz16_3⟩ := bc4_ BK345.out) | ((with_reducible refine gate_callee (f := 38) rfl ?_); refine goesL_ (some 5) rfl rfl Try.func38 (by kernel_rfl) rfl #[.agg #[.bool a0_0, .int .i64 a0_1, .int .i64 a0_2, .int .i64 a0_3]] rfl al_ ?_; (with_reducible refine (impl_PrefixOk.calls a0_0 a0_1 a0_2 a0_3 true _ A2.out).mono ?_); rintro e w17 ⟨rfl, hb⟩; refine ⟨_, rfl, ?_⟩; have n0_ := Aside0.mk (blk_below (bk_ BK345.out) hb); have n1_ := Aside0.mk (blk_below (bk_ BK346.out) hb); have n2_ := Aside0.mk (below_step (hd_ HB.out GE345.out GE346.out) hb); clear BK345; clear BK346; clear HB; have BK345 := n0_; have BK346 := n1_; have HB := n2_; clear n0_ n1_ n2_; (try clear hb); (try clear hb2); (try clear hk); (try clear hi); obtain ⟨hcz18_0, hcz18_1, hcz18_2, hcz18_3, hfz18_0, hfz18_1, hfz18_2, hfz18_3⟩ := bc4_ BK345.out))
   have n0_ := Aside0.mk (blk_drew BK345.out)
   have n1_ := Aside0.mk (blk_drew BK346.out)
   have n2_ := Aside0.mk (below_drew1 HB.out)
   clear BK345
   clear BK346
   clear HB
   have BK345 := n0_
   have BK346 := n1_
   have HB := n2_
   clear n0_ n1_ n2_
   refine start_ (n := 10) (S := fun w' => w'.cell? ⟨gb345, 0, none⟩ = some (.bool a0_0) ∧ w'.cell? ⟨gb345, 1, none⟩ = some (.int .i64 a0_1) ∧ w'.cell? ⟨gb345, 2, none⟩ = some (.int .i64 a0_2) ∧ w'.cell? ⟨gb345, 3, none⟩ = some (.int .i64 a0_3)) (ds := []) #[false, false, false, false, false, false, false, false, false, false] (by kernel_rfl) rfl rfl ⟨(blk_cell BK345.out 0).trans rfl, (blk_cell BK345.out 1).trans rfl, (blk_cell BK345.out 2).trans rfl, (blk_cell BK345.out 3).trans rfl⟩ (fun hHeld => ?_); refine with_tabW impl_Sibling.tab3 impl_Sibling.bits3 (fun HT_ HW_ => ?_)
   generalize w17.drew = w19 at BK345 BK346 HB hHeld ⊢
   refine pure_ (i := 0) (N := some 13) (v := ?_) (a' := ?_) #[true, false, false, false, false, false, false, false, false, false] rfl rfl (any_of HT_.out (by kernel_rfl)) (fun _ _ _ h => h) (Or.inl ⟨by rfl, ?_⟩) ?_ ?_
   rotate_left
   ·intro w'
    go_simp
    with_reducible rfl
   rotate_left
   ·simp only [put, setIfInBounds_toArray, set_cons_zero, set_cons_succ, i64_w, i32_w]
    rfl
   refine pure_ (i := 2) (N := some 15) (v := ?_) (a' := ?_) #[true, false, true, false, false, false, false, false, false, false] rfl rfl (any_of HT_.out (by kernel_rfl)) (fun _ _ _ h => h) (Or.inl ⟨by rfl, ?_⟩) ?_ ?_
   rotate_left
   ·intro w'
    go_simp
    with_reducible rfl
   rotate_left
   ·simp only [put, setIfInBounds_toArray, set_cons_zero, set_cons_succ, i64_w, i32_w]
    rfl
   refine pure_ (i := 5) (N := some 18) (v := ?_) (a' := ?_) #[true, false, true, false, false, true, false, false, false, false] rfl rfl (any_of HT_.out (by kernel_rfl)) (fun _ _ _ h => h) (Or.inl ⟨by rfl, ?_⟩) ?_ ?_
   rotate_left
   ·intro w'
    go_simp
    with_reducible rfl
   rotate_left
   ·simp only [put, setIfInBounds_toArray, set_cons_zero, set_cons_succ, i64_w, i32_w]
    rfl
   refine take_ (i := 1) (N := some 14) (v := ?_) (a' := ?_) #[true, true, true, false, false, true, false, false, false, false] rfl rfl (take_ofW HT_.out HW_.out (by kernel_rfl)) (fun _ _ _ h => h) (Or.inl ⟨by rfl, ?_⟩) hHeld ?_ ?_
   rotate_left
   ·rintro w' ⟨s0, s1, s2, s3⟩
    go_simp
    with_reducible rfl
   rotate_left
   ·simp only [put, setIfInBounds_toArray, set_cons_zero, set_cons_succ, i64_w, i32_w]
    rfl
   refine take_ (i := 3) (N := some 16) (v := ?_) (a' := ?_) #[true, true, true, true, false, true, false, false, false, false] rfl rfl (take_ofW HT_.out HW_.out (by kernel_rfl)) (fun _ _ _ h => h) (Or.inl ⟨by rfl, ?_⟩) hHeld ?_ ?_
   rotate_left
   ·rintro w' ⟨s0, s1, s2, s3⟩
    go_simp
    with_reducible rfl
   rotate_left
   ·simp only [put, setIfInBounds_toArray, set_cons_zero, set_cons_succ, i64_w, i32_w]
    rfl
   refine take_ (i := 6) (N := some 19) (v := ?_) (a' := ?_) #[true, true, true, true, false, true, true, false, false, false] rfl rfl (take_ofW HT_.out HW_.out (by kernel_rfl)) (fun _ _ _ h => h) (Or.inl ⟨by rfl, ?_⟩) hHeld ?_ ?_
   rotate_left
   ·rintro w' ⟨s0, s1, s2, s3⟩
    go_simp
    with_reducible rfl
   rotate_left
   ·simp only [put, setIfInBounds_toArray, set_cons_zero, set_cons_succ, i64_w, i32_w]
    rfl
   refine one_ (i := 4) (N := some 17) #[true, true, true, true, true, true, true, false, false, false] rfl rfl (one_of HT_.out (by kernel_rfl)) (by decide) (fun K hK => ?_)
   refine goes_ Try.func90 (by kernel_rfl) rfl #[.agg #[.bool a0_0, .int .i64 a0_1, .int .i64 a0_2], .int .i64 a0_3] (by rfl) rfl rfl al_ ?_
   with_reducible refine (impl_flipped.calls a0_0 a0_1 a0_2 a0_3 t348 t349 t350 _ A12.out).mono ?_
   rintro e w20 ⟨rfl, hb⟩
   refine ⟨_, rfl, ?_⟩
   have n0_ := Aside0.mk (blk_below (bk_ BK345.out) hb)
   have n1_ := Aside0.mk (blk_below (bk_ BK346.out) hb)
   have n2_ := Aside0.mk (below_step (hd_ HB.out GE345.out GE346.out) hb)
   clear BK345
   clear BK346
   clear HB
   have BK345 := n0_
   have BK346 := n1_
   have HB := n2_
   clear n0_ n1_ n2_
   (try clear hb)
   (try clear hb2)
   (try clear hk)
   (try clear hi)
   refine hK.out _ _ ⟨(blk_cell BK345.out 0).trans rfl, (blk_cell BK345.out 1).trans rfl, (blk_cell BK345.out 2).trans rfl, (blk_cell BK345.out 3).trans rfl⟩ (fun hHeld => ?_)
   clear hK K
   refine norm_ (a' := ?_) ?_ ?_
   rotate_left
   ·show Act.put _ (some 17) _ = _
    simp only [put, setIfInBounds_toArray, set_cons_zero, set_cons_succ, i64_w, i32_w]
    rfl
   refine pure_ (i := 7) (N := some 20) (v := ?_) (a' := ?_) #[true, true, true, true, true, true, true, true, false, false] rfl rfl (any_of HT_.out (by kernel_rfl)) (fun _ _ _ h => h) (Or.inl ⟨by rfl, ?_⟩) ?_ ?_
   rotate_left
   ·intro w'
    go_simp
    with_reducible rfl
   rotate_left
   ·simp only [put, setIfInBounds_toArray, set_cons_zero, set_cons_succ, i64_w, i32_w]
    rfl
   refine one_ (i := 8) (N := none) #[true, true, true, true, true, true, true, true, true, false] rfl rfl (one_of HT_.out (by kernel_rfl)) (by decide) (fun K hK => ?_)
   have hs21 : w20.cell? ⟨gb346, 0, none⟩ = some (.bool false) := (blk_cell BK346.out 0).trans rfl
   have hfs21 := blk_frozen BK346.out 0
   have hns21_0 := NB345_346.out
   have hms21_0 := NB346_345.out
   have hs22 : w20.cell? ⟨gb346, 1, none⟩ = some (.int .i64 0) := (blk_cell BK346.out 1).trans rfl
   have hfs22 := blk_frozen BK346.out 1
   have hns22_0 := NB345_346.out
   have hms22_0 := NB346_345.out
   have hs23 : w20.cell? ⟨gb346, 2, none⟩ = some (.int .i64 0) := (blk_cell BK346.out 2).trans rfl
   have hfs23 := blk_frozen BK346.out 2
   have hns23_0 := NB345_346.out
   have hms23_0 := NB346_345.out
   have hs24 : w20.cell? ⟨gb346, 3, none⟩ = some (.int .i64 0) := (blk_cell BK346.out 3).trans rfl
   have hfs24 := blk_frozen BK346.out 3
   have hns24_0 := NB345_346.out
   have hms24_0 := NB346_345.out
   refine skip_ (w1 := ?_) (by rfl) rfl ?_ ?_
   rotate_left
   ·go_simp
    rfl
   refine hK.out _ _ ⟨((cell_far (p := ⟨gb346, _, none⟩) NB345_346.out _).trans (((cell_far (p := ⟨gb346, _, none⟩) NB345_346.out _).trans (((cell_far (p := ⟨gb346, _, none⟩) NB345_346.out _).trans (((cell_far (p := ⟨gb346, _, none⟩) NB345_346.out _).trans (hHeld.1)))))))), ((cell_far (p := ⟨gb346, _, none⟩) NB345_346.out _).trans (((cell_far (p := ⟨gb346, _, none⟩) NB345_346.out _).trans (((cell_far (p := ⟨gb346, _, none⟩) NB345_346.out _).trans (((cell_far (p := ⟨gb346, _, none⟩) NB345_346.out _).trans (hHeld.2.1)))))))), ((cell_far (p := ⟨gb346, _, none⟩) NB345_346.out _).trans (((cell_far (p := ⟨gb346, _, none⟩) NB345_346.out _).trans (((cell_far (p := ⟨gb346, _, none⟩) NB345_346.out _).trans (((cell_far (p := ⟨gb346, _, none⟩) NB345_346.out _).trans (hHeld.2.2.1)))))))), ((cell_far (p := ⟨gb346, _, none⟩) NB345_346.out _).trans (((cell_far (p := ⟨gb346, _, none⟩) NB345_346.out _).trans (((cell_far (p := ⟨gb346, _, none⟩) NB345_346.out _).trans (((cell_far (p := ⟨gb346, _, none⟩) NB345_346.out _).trans (hHeld.2.2.2))))))))⟩ (fun hHeld => ?_)
   clear hK K
   refine pure_ (i := 9) (N := some 3) (v := ?_) (a' := ?_) #[true, true, true, true, true, true, true, true, true, true] rfl rfl (any_of HT_.out (by kernel_rfl)) (fun _ _ _ h => h) (Or.inl ⟨by rfl, ?_⟩) ?_ ?_
   rotate_left
   ·intro w'
    go_simp
    with_reducible rfl
   rotate_left
   ·simp only [put, setIfInBounds_toArray, set_cons_zero, set_cons_succ, i64_w, i32_w]
    rfl
   refine done_ (done_of HT_.out (by kernel_rfl)) ?_
   try go_wp2
   refine bodyPost_ret (results_ct rfl _ _ gb346 31 #[.bool t348, .int .i64 t349, .int .i64 t350, .int .i64 a0_3] (0, 0) _ rfl (by refine bk_ ?_; refine blk_put (cs := #[.bool t348, .int .i64 t349, .int .i64 t350, .int .i64 0]) ?_ 3 _ rfl; refine bk_ ?_; refine blk_put (cs := #[.bool t348, .int .i64 t349, .int .i64 0, .int .i64 0]) ?_ 2 _ rfl; refine bk_ ?_; refine blk_put (cs := #[.bool t348, .int .i64 0, .int .i64 0, .int .i64 0]) ?_ 1 _ rfl; refine bk_ ?_; refine blk_put (cs := #[.bool false, .int .i64 0, .int .i64 0, .int .i64 0]) ?_ 0 _ rfl; refine bk_ ?_; exact BK346.out) Try.underlying31 rfl (by kernel_rfl)) rfl ?_
   exact ⟨pe_, hd_ HB.out GE345.out GE346.out⟩
 ·replace c3 := Bool.eq_false_iff.mpr c3
  subst c3
  have H1 : (some (false, 0, 0, 0, false)) = some (r1, r2, r3, r4, r5) := by rw [if_neg (show ¬ (false = true) by decide)] at H; exact H
  clear H
  have H := H1
  clear H1
  simp only [Option.some.injEq, Prod.mk.injEq] at H
  obtain ⟨rfl, rfl, rfl, rfl, rfl⟩ := H
  go_enter Try.func40, Try.ntmps40
  go_wp2_with (first | ((with_reducible refine gate_dst (N := 1) rfl ?_); refine box_event ?hg (N := 1) ?hd (cs := #[.bool a0_0, .int .i64 a0_1, .int .i64 a0_2, .int .i64 a0_3]) (t := 31) ?hr ?_; (case hd => rfl); (case hg => rfl); (case hr => first | (go_simp; done) | (go_simp; rfl)); intro gb345 hg w25 hbox hb; have n0_ := Aside0.mk (below_step (hb_ HB.out) hb); have n1_ := Aside0.mk (hbox); have n2_ := bg_ hg (below_size (hb_ HB.out)); have n3_ := bg_ hg (below_size (hb_ HB.out)); clear HB; have HB := n0_; have BK345 := n1_; have GW345 := n2_; have GE345 := n3_; clear n0_ n1_ n2_ n3_; clear hb hbox hg) | ((with_reducible refine gate_dst (N := 2) rfl ?_); refine box_event ?hg (N := 2) ?hd (cs := #[.bool false, .int .i64 0, .int .i64 0, .int .i64 0]) (t := 31) ?hr ?_; (case hd => rfl); (case hg => rfl); (case hr => first | (go_simp; done) | (go_simp; rfl)); intro gb346 hg w26 hbox hb; have n0_ := Aside0.mk (blk_below (bk_ BK345.out) hb); have n1_ := Aside0.mk (below_step (hc_ HB.out GE345.out) hb); have n2_ := Aside0.mk (hbox); have n3_ := bg_ hg (below_size (hc_ HB.out GE345.out)); have n4_ := bg_ hg (below_size (hc_ HB.out GE345.out)); have n5_ := bn_ hg (blk_lt (bk_ BK345.out)); have n6_ := bm_ hg (blk_lt (bk_ BK345.out)); clear BK345; clear HB; have BK345 := n0_; have HB := n1_; have BK346 := n2_; have GW346 := n3_; have GE346 := n4_; have NB345_346 := n5_; have NB346_345 := n6_; clear n0_ n1_ n2_ n3_ n4_ n5_ n6_; clear hb hbox hg; have hnb27 := NB345_346.out; have hnc27 := NB346_345.out; obtain ⟨hcz28_0, hcz28_1, hcz28_2, hcz28_3, hfz28_0, hfz28_1, hfz28_2, hfz28_3⟩ := bc4_ BK345.out) | ((with_reducible refine gate_callee (f := 38) rfl ?_); refine goesL_ (some 5) rfl rfl Try.func38 (by kernel_rfl) rfl #[.agg #[.bool a0_0, .int .i64 a0_1, .int .i64 a0_2, .int .i64 a0_3]] rfl al_ ?_; (with_reducible refine (impl_PrefixOk.calls a0_0 a0_1 a0_2 a0_3 false _ A2.out).mono ?_); rintro e w29 ⟨rfl, hb⟩; refine ⟨_, rfl, ?_⟩; have n0_ := Aside0.mk (blk_below (bk_ BK345.out) hb); have n1_ := Aside0.mk (blk_below (bk_ BK346.out) hb); have n2_ := Aside0.mk (below_step (hd_ HB.out GE345.out GE346.out) hb); clear BK345; clear BK346; clear HB; have BK345 := n0_; have BK346 := n1_; have HB := n2_; clear n0_ n1_ n2_; (try clear hb); (try clear hb2); (try clear hk); (try clear hi); obtain ⟨hcz30_0, hcz30_1, hcz30_2, hcz30_3, hfz30_0, hfz30_1, hfz30_2, hfz30_3⟩ := bc4_ BK346.out))
  refine bodyPost_ret (results_ct rfl _ _ gb346 31 #[.bool false, .int .i64 0, .int .i64 0, .int .i64 0] (0, 0) _ rfl (by refine bk_ ?_; refine blk_put (cs := #[.bool false, .int .i64 0, .int .i64 0, .int .i64 0]) ?_ 3 _ rfl; refine bk_ ?_; refine blk_put (cs := #[.bool false, .int .i64 0, .int .i64 0, .int .i64 0]) ?_ 2 _ rfl; refine bk_ ?_; refine blk_put (cs := #[.bool false, .int .i64 0, .int .i64 0, .int .i64 0]) ?_ 1 _ rfl; refine bk_ ?_; refine blk_put (cs := #[.bool false, .int .i64 0, .int .i64 0, .int .i64 0]) ?_ 0 _ rfl; refine bk_ ?_; exact BK346.out) Try.underlying31 rfl (by kernel_rfl)) rfl ?_
  exact ⟨pe_, hd_ HB.out GE345.out GE346.out⟩

/-! ### impl_right: function 101 -/
def impl_right.f (a0_0 : Bool) (a0_1 : Int) (a0_2 : Int) : Option (Bool × Int × Int) := (impl_AddrOk.f a0_0 a0_1 a0_2).bind fun t353 => (if t353 = true then (some (a0_0, a0_1, a0_2)) else (some (false, 0, 0)))
set_option maxHeartbeats 8000000 in
set_option maxRecDepth 100000 in
theorem impl_right.calls (a0_0 : Bool) (a0_1 : Int) (a0_2 : Int) (r1 : Bool) (r2 : Int) (r3 : Int) (w : World) (h : impl_right.f a0_0 a0_1 a0_2 = some (r1, r2, r3)) :
  Calls Try.prog 101 #[.agg #[.bool a0_0, .int .i64 a0_1, .int .i64 a0_2]] w fun e w' => e = .returned (.agg #[.bool r1, .int .i64 r2, .int .i64 r3]) ∧ Below w.heap.size w w' := by
 have hu29 := Try.underlying29
 have HB := Aside0.mk (Below.refl w.heap.size w)
 have H : ((impl_AddrOk.f a0_0 a0_1 a0_2).bind fun t353 => (if t353 = true then (some (a0_0, a0_1, a0_2)) else (some (false, 0, 0)))) = some (r1, r2, r3) := h
 clear h
 replace H := Option.bind_eq_some_iff.mp H
 obtain ⟨t353, A20, H⟩ := H
 replace H : (if t353 = true then (some (a0_0, a0_1, a0_2)) else (some (false, 0, 0))) = some (r1, r2, r3) := H
 have A2 := Aside0.mk A20
 clear A20
 by_cases c3 : t353 = true
 ·subst c3
  have H1 : (some (a0_0, a0_1, a0_2)) = some (r1, r2, r3) := by rw [if_pos rfl] at H; exact H
  clear H
  have H := H1
  clear H1
  simp only [Option.some.injEq, Prod.mk.injEq] at H
  obtain ⟨rfl, rfl, rfl⟩ := H
  go_enter Try.func101, Try.ntmps101
  go_wp2_with (first | ((with_reducible refine gate_dst (N := 1) rfl ?_); refine box_event ?hg (N := 1) ?hd (cs := #[.bool a0_0, .int .i64 a0_1, .int .i64 a0_2]) (t := 29) ?hr ?_; (case hd => rfl); (case hg => rfl); (case hr => first | (go_simp; done) | (go_simp; rfl)); intro gb351 hg w4 hbox hb; have n0_ := Aside0.mk (below_step (hb_ HB.out) hb); have n1_ := Aside0.mk (hbox); have n2_ := bg_ hg (below_size (hb_ HB.out)); have n3_ := bg_ hg (below_size (hb_ HB.out)); clear HB; have HB := n0_; have BK351 := n1_; have GW351 := n2_; have GE351 := n3_; clear n0_ n1_ n2_ n3_; clear hb hbox hg) | ((with_reducible refine gate_dst (N := 2) rfl ?_); refine box_event ?hg (N := 2) ?hd (cs := #[.bool false, .int .i64 0, .int .i64 0]) (t := 29) ?hr ?_; (case hd => rfl); (case hg => rfl); (case hr => first | (go_simp; done) | (go_simp; rfl)); intro gb352 hg w5 hbox hb; have n0_ := Aside0.mk (blk_below (bk_ BK351.out) hb); have n1_ := Aside0.mk (below_step (hc_ HB.out GE351.out) hb); have n2_ := Aside0.mk (hbox); have n3_ := bg_ hg (below_size (hc_ HB.out GE351.out)); have n4_ := bg_ hg (below_size (hc_ HB.out GE351.out)); have n5_ := bn_ hg (blk_lt (bk_ BK351.out)); have n6_ := bm_ hg (blk_lt (bk_ BK351.out)); clear BK351; clear HB; have BK351 := n0_; have HB := n1_; have BK352 := n2_; have GW352 := n3_; have GE352 := n4_; have NB351_352 := n5_; have NB352_351 := n6_; clear n0_ n1_ n2_ n3_ n4_ n5_ n6_; clear hb hbox hg; have hnb6 := NB351_352.out; have hnc6 := NB352_351.out; obtain ⟨hcz7_0, hcz7_1, hcz7_2, hfz7_0, hfz7_1, hfz7_2⟩ := bc3_ BK351.out) | ((with_reducible refine gate_callee (f := 96) rfl ?_); refine goesL_ (some 4) rfl rfl Try.func96 (by kernel_rfl) rfl #[.agg #[.bool a0_0, .int .i64 a0_1, .int .i64 a0_2]] rfl al_ ?_; (with_reducible refine (impl_AddrOk.calls a0_0 a0_1 a0_2 true _ A2.out).mono ?_); rintro e w8 ⟨rfl, hb⟩; refine ⟨_, rfl, ?_⟩; have n0_ := Aside0.mk (blk_below (bk_ BK351.out) hb); have n1_ := Aside0.mk (blk_below (bk_ BK352.out) hb); have n2_ := Aside0.mk (below_step (hd_ HB.out GE351.out GE352.out) hb); clear BK351; clear BK352; clear HB; have BK351 := n0_; have BK352 := n1_; have HB := n2_; clear n0_ n1_ n2_; (try clear hb); (try clear hb2); (try clear hk); (try clear hi); obtain ⟨hcz9_0, hcz9_1, hcz9_2, hfz9_0, hfz9_1, hfz9_2⟩ := bc3_ BK351.out; obtain ⟨hcz10_0, hcz10_1, hcz10_2, hfz10_0, hfz10_1, hfz10_2⟩ := bc3_ BK352.out))
  refine bodyPost_ret (results_cell_row rfl _ _ gb352 29 #[.bool a0_0, .int .i64 a0_1, .int .i64 a0_2] (0, 0) _ rfl (by refine bk_ ?_; refine blk_put (cs := #[.bool a0_0, .int .i64 a0_1, .int .i64 0]) ?_ 2 _ rfl; refine bk_ ?_; refine blk_put (cs := #[.bool a0_0, .int .i64 0, .int .i64 0]) ?_ 1 _ rfl; refine bk_ ?_; refine blk_put (cs := #[.bool false, .int .i64 0, .int .i64 0]) ?_ 0 _ rfl; refine bk_ ?_; exact BK352.out) Try.underlying29 rfl (by kernel_rfl)) rfl ?_
  exact ⟨pe_, hd_ HB.out GE351.out GE352.out⟩
 ·replace c3 := Bool.eq_false_iff.mpr c3
  subst c3
  have H1 : (some (false, 0, 0)) = some (r1, r2, r3) := by rw [if_neg (show ¬ (false = true) by decide)] at H; exact H
  clear H
  have H := H1
  clear H1
  simp only [Option.some.injEq, Prod.mk.injEq] at H
  obtain ⟨rfl, rfl, rfl⟩ := H
  go_enter Try.func101, Try.ntmps101
  go_wp2_with (first | ((with_reducible refine gate_dst (N := 1) rfl ?_); refine box_event ?hg (N := 1) ?hd (cs := #[.bool a0_0, .int .i64 a0_1, .int .i64 a0_2]) (t := 29) ?hr ?_; (case hd => rfl); (case hg => rfl); (case hr => first | (go_simp; done) | (go_simp; rfl)); intro gb351 hg w11 hbox hb; have n0_ := Aside0.mk (below_step (hb_ HB.out) hb); have n1_ := Aside0.mk (hbox); have n2_ := bg_ hg (below_size (hb_ HB.out)); have n3_ := bg_ hg (below_size (hb_ HB.out)); clear HB; have HB := n0_; have BK351 := n1_; have GW351 := n2_; have GE351 := n3_; clear n0_ n1_ n2_ n3_; clear hb hbox hg) | ((with_reducible refine gate_dst (N := 2) rfl ?_); refine box_event ?hg (N := 2) ?hd (cs := #[.bool false, .int .i64 0, .int .i64 0]) (t := 29) ?hr ?_; (case hd => rfl); (case hg => rfl); (case hr => first | (go_simp; done) | (go_simp; rfl)); intro gb352 hg w12 hbox hb; have n0_ := Aside0.mk (blk_below (bk_ BK351.out) hb); have n1_ := Aside0.mk (below_step (hc_ HB.out GE351.out) hb); have n2_ := Aside0.mk (hbox); have n3_ := bg_ hg (below_size (hc_ HB.out GE351.out)); have n4_ := bg_ hg (below_size (hc_ HB.out GE351.out)); have n5_ := bn_ hg (blk_lt (bk_ BK351.out)); have n6_ := bm_ hg (blk_lt (bk_ BK351.out)); clear BK351; clear HB; have BK351 := n0_; have HB := n1_; have BK352 := n2_; have GW352 := n3_; have GE352 := n4_; have NB351_352 := n5_; have NB352_351 := n6_; clear n0_ n1_ n2_ n3_ n4_ n5_ n6_; clear hb hbox hg; have hnb13 := NB351_352.out; have hnc13 := NB352_351.out; obtain ⟨hcz14_0, hcz14_1, hcz14_2, hfz14_0, hfz14_1, hfz14_2⟩ := bc3_ BK351.out) | ((with_reducible refine gate_callee (f := 96) rfl ?_); refine goesL_ (some 4) rfl rfl Try.func96 (by kernel_rfl) rfl #[.agg #[.bool a0_0, .int .i64 a0_1, .int .i64 a0_2]] rfl al_ ?_; (with_reducible refine (impl_AddrOk.calls a0_0 a0_1 a0_2 false _ A2.out).mono ?_); rintro e w15 ⟨rfl, hb⟩; refine ⟨_, rfl, ?_⟩; have n0_ := Aside0.mk (blk_below (bk_ BK351.out) hb); have n1_ := Aside0.mk (blk_below (bk_ BK352.out) hb); have n2_ := Aside0.mk (below_step (hd_ HB.out GE351.out GE352.out) hb); clear BK351; clear BK352; clear HB; have BK351 := n0_; have BK352 := n1_; have HB := n2_; clear n0_ n1_ n2_; (try clear hb); (try clear hb2); (try clear hk); (try clear hi); obtain ⟨hcz16_0, hcz16_1, hcz16_2, hfz16_0, hfz16_1, hfz16_2⟩ := bc3_ BK352.out))
  refine bodyPost_ret (results_cell_row rfl _ _ gb352 29 #[.bool false, .int .i64 0, .int .i64 0] (0, 0) _ rfl (by refine bk_ ?_; refine blk_put (cs := #[.bool false, .int .i64 0, .int .i64 0]) ?_ 2 _ rfl; refine bk_ ?_; refine blk_put (cs := #[.bool false, .int .i64 0, .int .i64 0]) ?_ 1 _ rfl; refine bk_ ?_; refine blk_put (cs := #[.bool false, .int .i64 0, .int .i64 0]) ?_ 0 _ rfl; refine bk_ ?_; exact BK352.out) Try.underlying29 rfl (by kernel_rfl)) rfl ?_
  exact ⟨pe_, hd_ HB.out GE351.out GE352.out⟩

-- NOT PRINTED: function 102 (bits_Add64)

/-! ### impl_AddTo: function 43 -/
def impl_AddTo.f (a0_0 : Bool) (a0_1 : Int) (a0_2 : Int) (a1 : Int) : Option (Bool × Int × Int × Bool) := (impl_right.f a0_0 a0_1 a0_2).bind fun bt356 => (if a1 < 0 then (some (false, 0, 0, false)) else (if bt356.1 = true then (if (add64c (IntKind.u64.wrap (bt356.2.1)) 0 (add64c (IntKind.u64.wrap (bt356.2.2)) (IntKind.u64.wrap (a1)) 0)) = 0 then (some (true, wrap64 (add64s (IntKind.u64.wrap (bt356.2.1)) 0 (add64c (IntKind.u64.wrap (bt356.2.2)) (IntKind.u64.wrap (a1)) 0)), wrap64 (add64s (IntKind.u64.wrap (bt356.2.2)) (IntKind.u64.wrap (a1)) 0), true)) else (some (false, 0, 0, false))) else (if a1 > (wrap64 (4294967295 - bt356.2.2)) then (some (false, 0, 0, false)) else (some (false, 0, wrap64 (bt356.2.2 + a1), true)))))
set_option maxHeartbeats 8000000 in
set_option maxRecDepth 100000 in
theorem impl_AddTo.calls (a0_0 : Bool) (a0_1 : Int) (a0_2 : Int) (a1 : Int) (r1 : Bool) (r2 : Int) (r3 : Int) (r4 : Bool) (w : World) (h : impl_AddTo.f a0_0 a0_1 a0_2 a1 = some (r1, r2, r3, r4)) :
  Calls Try.prog 43 #[.agg #[.bool a0_0, .int .i64 a0_1, .int .i64 a0_2], .int .i64 a1] w fun e w' => e = .returned (.tuple #[.agg #[.bool r1, .int .i64 r2, .int .i64 r3], .bool r4]) ∧ Below w.heap.size w w' := by
 have hu29 := Try.underlying29
 have HB := Aside0.mk (Below.refl w.heap.size w)
 have H : ((impl_right.f a0_0 a0_1 a0_2).bind fun bt356 => (if a1 < 0 then (some (false, 0, 0, false)) else (if bt356.1 = true then (if (add64c (IntKind.u64.wrap (bt356.2.1)) 0 (add64c (IntKind.u64.wrap (bt356.2.2)) (IntKind.u64.wrap (a1)) 0)) = 0 then (some (true, wrap64 (add64s (IntKind.u64.wrap (bt356.2.1)) 0 (add64c (IntKind.u64.wrap (bt356.2.2)) (IntKind.u64.wrap (a1)) 0)), wrap64 (add64s (IntKind.u64.wrap (bt356.2.2)) (IntKind.u64.wrap (a1)) 0), true)) else (some (false, 0, 0, false))) else (if a1 > (wrap64 (4294967295 - bt356.2.2)) then (some (false, 0, 0, false)) else (some (false, 0, wrap64 (bt356.2.2 + a1), true)))))) = some (r1, r2, r3, r4) := h
 clear h
 replace H := Option.bind_eq_some_iff.mp H
 obtain ⟨⟨t356, t357, t358⟩, A30, H⟩ := H
 replace H : (if a1 < 0 then (some (false, 0, 0, false)) else (if t356 = true then (if (add64c (IntKind.u64.wrap (t357)) 0 (add64c (IntKind.u64.wrap (t358)) (IntKind.u64.wrap (a1)) 0)) = 0 then (some (true, wrap64 (add64s (IntKind.u64.wrap (t357)) 0 (add64c (IntKind.u64.wrap (t358)) (IntKind.u64.wrap (a1)) 0)), wrap64 (add64s (IntKind.u64.wrap (t358)) (IntKind.u64.wrap (a1)) 0), true)) else (some (false, 0, 0, false))) else (if a1 > (wrap64 (4294967295 - t358)) then (some (false, 0, 0, false)) else (some (false, 0, wrap64 (t358 + a1), true))))) = some (r1, r2, r3, r4) := H
 have A3 := Aside0.mk A30
 clear A30
 by_cases c4 : a1 < 0
 ·rw [if_pos c4] at H
  have c4b0 : decide (a1 < 0) = true := decide_eq_true c4
  clear c4
  simp only [Option.some.injEq, Prod.mk.injEq] at H
  obtain ⟨rfl, rfl, rfl, rfl⟩ := H
  go_enter Try.func43, Try.ntmps43
  go_wp2_with (first | ((with_reducible refine gate_dst (N := 2) rfl ?_); refine box_event ?hg (N := 2) ?hd (cs := #[.bool a0_0, .int .i64 a0_1, .int .i64 a0_2]) (t := 29) ?hr ?_; (case hd => rfl); (case hg => rfl); (case hr => first | (go_simp; done) | (go_simp; rfl)); intro gb354 hg w5 hbox hb; have n0_ := Aside0.mk (below_step (hb_ HB.out) hb); have n1_ := Aside0.mk (hbox); have n2_ := bg_ hg (below_size (hb_ HB.out)); have n3_ := bg_ hg (below_size (hb_ HB.out)); clear HB; have HB := n0_; have BK354 := n1_; have GW354 := n2_; have GE354 := n3_; clear n0_ n1_ n2_ n3_; clear hb hbox hg) | ((with_reducible refine gate_dst (N := 4) rfl ?_); refine box_event ?hg (N := 4) ?hd (cs := #[.bool false, .int .i64 0, .int .i64 0]) (t := 29) ?hr ?_; (case hd => rfl); (case hg => rfl); (case hr => first | (go_simp; done) | (go_simp; rfl)); intro gb355 hg w6 hbox hb; have n0_ := Aside0.mk (blk_below (bk_ BK354.out) hb); have n1_ := Aside0.mk (below_step (hc_ HB.out GE354.out) hb); have n2_ := Aside0.mk (hbox); have n3_ := bg_ hg (below_size (hc_ HB.out GE354.out)); have n4_ := bg_ hg (below_size (hc_ HB.out GE354.out)); have n5_ := bn_ hg (blk_lt (bk_ BK354.out)); have n6_ := bm_ hg (blk_lt (bk_ BK354.out)); clear BK354; clear HB; have BK354 := n0_; have HB := n1_; have BK355 := n2_; have GW355 := n3_; have GE355 := n4_; have NB354_355 := n5_; have NB355_354 := n6_; clear n0_ n1_ n2_ n3_ n4_ n5_ n6_; clear hb hbox hg; have hnb7 := NB354_355.out; have hnc7 := NB355_354.out; obtain ⟨hcz8_0, hcz8_1, hcz8_2, hfz8_0, hfz8_1, hfz8_2⟩ := bc3_ BK354.out) | ((with_reducible refine gate_callee (f := 101) rfl ?_); refine goesL_ (some 11) rfl rfl Try.func101 (by kernel_rfl) rfl #[.agg #[.bool a0_0, .int .i64 a0_1, .int .i64 a0_2]] rfl al_ ?_; (with_reducible refine (impl_right.calls a0_0 a0_1 a0_2 t356 t357 t358 _ A3.out).mono ?_); rintro e w9 ⟨rfl, hb⟩; refine ⟨_, rfl, ?_⟩; have n0_ := Aside0.mk (blk_below (bk_ BK354.out) hb); have n1_ := Aside0.mk (blk_below (bk_ BK355.out) hb); have n2_ := Aside0.mk (below_step (hd_ HB.out GE354.out GE355.out) hb); clear BK354; clear BK355; clear HB; have BK354 := n0_; have BK355 := n1_; have HB := n2_; clear n0_ n1_ n2_; (try clear hb); (try clear hb2); (try clear hk); (try clear hi); obtain ⟨hcz10_0, hcz10_1, hcz10_2, hfz10_0, hfz10_1, hfz10_2⟩ := bc3_ BK354.out; obtain ⟨hcz11_0, hcz11_1, hcz11_2, hfz11_0, hfz11_1, hfz11_2⟩ := bc3_ BK355.out))
  refine bodyPost_ret (results_ct rfl _ _ gb355 29 #[.bool false, .int .i64 0, .int .i64 0] (0, 0) _ rfl (by refine bk_ ?_; refine blk_put (cs := #[.bool false, .int .i64 0, .int .i64 0]) ?_ 2 _ rfl; refine bk_ ?_; refine blk_put (cs := #[.bool false, .int .i64 0, .int .i64 0]) ?_ 1 _ rfl; refine bk_ ?_; refine blk_put (cs := #[.bool false, .int .i64 0, .int .i64 0]) ?_ 0 _ rfl; refine bk_ ?_; refine blk_far ?_ NB355_354.out _; refine bk_ ?_; refine blk_far ?_ NB355_354.out _; refine bk_ ?_; refine blk_far ?_ NB355_354.out _; refine bk_ ?_; exact BK355.out) Try.underlying29 rfl (by kernel_rfl)) rfl ?_
  exact ⟨pe_, hd_ HB.out GE354.out GE355.out⟩
 ·rw [if_neg c4] at H
  have c4b0 : decide (a1 < 0) = false := decide_eq_false c4
  clear c4
  by_cases c12 : t356 = true
  ·subst c12
   have H1 : (if (add64c (IntKind.u64.wrap (t357)) 0 (add64c (IntKind.u64.wrap (t358)) (IntKind.u64.wrap (a1)) 0)) = 0 then (some (true, wrap64 (add64s (IntKind.u64.wrap (t357)) 0 (add64c (IntKind.u64.wrap (t358)) (IntKind.u64.wrap (a1)) 0)), wrap64 (add64s (IntKind.u64.wrap (t358)) (IntKind.u64.wrap (a1)) 0), true)) else (some (false, 0, 0, false))) = some (r1, r2, r3, r4) := by rw [if_pos rfl] at H; exact H
   clear H
   have H := H1
   clear H1
   have hcarry13 := add64_run (IntKind.u64.wrap (t358)) (IntKind.u64.wrap (a1)) 0 (by first | decide | exact u64w_nn _) (by first | decide | exact u64w_nn _) (by first | decide | exact add64c_nn _ _) (by first | decide | exact add64c_le _ _)
   have hcarry14 := add64_run (IntKind.u64.wrap (t357)) 0 (add64c (IntKind.u64.wrap (t358)) (IntKind.u64.wrap (a1)) 0) (by first | decide | exact u64w_nn _) (by first | decide | exact u64w_nn _) (by first | decide | exact add64c_nn _ _) (by first | decide | exact add64c_le _ _)
   by_cases c15 : (add64c (IntKind.u64.wrap (t357)) 0 (add64c (IntKind.u64.wrap (t358)) (IntKind.u64.wrap (a1)) 0)) = 0
   ·rw [if_pos c15] at H
    have c15b0 : ((add64c (IntKind.u64.wrap (t357)) 0 (add64c (IntKind.u64.wrap (t358)) (IntKind.u64.wrap (a1)) 0)) == 0) = true := beq_iff_eq.mpr c15
    have c15b1 : ((add64c (IntKind.u64.wrap (t357)) 0 (add64c (IntKind.u64.wrap (t358)) (IntKind.u64.wrap (a1)) 0)) != 0) = false := bne_eq_false_iff_eq.mpr c15
    clear c15
    simp only [Option.some.injEq, Prod.mk.injEq] at H
    obtain ⟨rfl, rfl, rfl, rfl⟩ := H
    go_enter Try.func43, Try.ntmps43
    go_wp2_with (first | ((with_reducible refine gate_dst (N := 2) rfl ?_); refine box_event ?hg (N := 2) ?hd (cs := #[.bool a0_0, .int .i64 a0_1, .int .i64 a0_2]) (t := 29) ?hr ?_; (case hd => rfl); (case hg => rfl); (case hr => first | (go_simp; done) | (go_simp; rfl)); intro gb354 hg w16 hbox hb; have n0_ := Aside0.mk (below_step (hb_ HB.out) hb); have n1_ := Aside0.mk (hbox); have n2_ := bg_ hg (below_size (hb_ HB.out)); have n3_ := bg_ hg (below_size (hb_ HB.out)); clear HB; have HB := n0_; have BK354 := n1_; have GW354 := n2_; have GE354 := n3_; clear n0_ n1_ n2_ n3_; clear hb hbox hg) | ((with_reducible refine gate_dst (N := 4) rfl ?_); refine box_event ?hg (N := 4) ?hd (cs := #[.bool false, .int .i64 0, .int .i64 0]) (t := 29) ?hr ?_; (case hd => rfl); (case hg => rfl); (case hr => first | (go_simp; done) | (go_simp; rfl)); intro gb355 hg w17 hbox hb; have n0_ := Aside0.mk (blk_below (bk_ BK354.out) hb); have n1_ := Aside0.mk (below_step (hc_ HB.out GE354.out) hb); have n2_ := Aside0.mk (hbox); have n3_ := bg_ hg (below_size (hc_ HB.out GE354.out)); have n4_ := bg_ hg (below_size (hc_ HB.out GE354.out)); have n5_ := bn_ hg (blk_lt (bk_ BK354.out)); have n6_ := bm_ hg (blk_lt (bk_ BK354.out)); clear BK354; clear HB; have BK354 := n0_; have HB := n1_; have BK355 := n2_; have GW355 := n3_; have GE355 := n4_; have NB354_355 := n5_; have NB355_354 := n6_; clear n0_ n1_ n2_ n3_ n4_ n5_ n6_; clear hb hbox hg; have hnb18 := NB354_355.out; have hnc18 := NB355_354.out; obtain ⟨hcz19_0, hcz19_1, hcz19_2, hfz19_0, hfz19_1, hfz19_2⟩ := bc3_ BK354.out) | ((with_reducible refine gate_callee (f := 101) rfl ?_); refine goesL_ (some 11) rfl rfl Try.func101 (by kernel_rfl) rfl #[.agg #[.bool a0_0, .int .i64 a0_1, .int .i64 a0_2]] rfl al_ ?_; (with_reducible refine (impl_right.calls a0_0 a0_1 a0_2 true t357 t358 _ A3.out).mono ?_); rintro e w20 ⟨rfl, hb⟩; refine ⟨_, rfl, ?_⟩; have n0_ := Aside0.mk (blk_below (bk_ BK354.out) hb); have n1_ := Aside0.mk (blk_below (bk_ BK355.out) hb); have n2_ := Aside0.mk (below_step (hd_ HB.out GE354.out GE355.out) hb); clear BK354; clear BK355; clear HB; have BK354 := n0_; have BK355 := n1_; have HB := n2_; clear n0_ n1_ n2_; (try clear hb); (try clear hb2); (try clear hk); (try clear hi); obtain ⟨hcz21_0, hcz21_1, hcz21_2, hfz21_0, hfz21_1, hfz21_2⟩ := bc3_ BK354.out; obtain ⟨hcz22_0, hcz22_1, hcz22_2, hfz22_0, hfz22_1, hfz22_2⟩ := bc3_ BK355.out))
    refine bodyPost_ret (results_ct rfl _ _ gb355 29 #[.bool true, .int .i64 (wrap64 (add64s (IntKind.u64.wrap (t357)) 0 (add64c (IntKind.u64.wrap (t358)) (IntKind.u64.wrap (a1)) 0))), .int .i64 (wrap64 (add64s (IntKind.u64.wrap (t358)) (IntKind.u64.wrap (a1)) 0))] (0, 0) _ rfl (by refine bk_ ?_; refine blk_put (cs := #[.bool true, .int .i64 (wrap64 (add64s (IntKind.u64.wrap (t357)) 0 (add64c (IntKind.u64.wrap (t358)) (IntKind.u64.wrap (a1)) 0))), .int .i64 0]) ?_ 2 _ rfl; refine bk_ ?_; refine blk_put (cs := #[.bool true, .int .i64 0, .int .i64 0]) ?_ 1 _ rfl; refine bk_ ?_; refine blk_put (cs := #[.bool false, .int .i64 0, .int .i64 0]) ?_ 0 _ rfl; refine bk_ ?_; refine blk_far ?_ NB355_354.out _; refine bk_ ?_; refine blk_far ?_ NB355_354.out _; refine bk_ ?_; refine blk_far ?_ NB355_354.out _; refine bk_ ?_; exact BK355.out) Try.underlying29 rfl (by kernel_rfl)) rfl ?_
    exact ⟨pe_, hd_ HB.out GE354.out GE355.out⟩
   ·rw [if_neg c15] at H
    have c15b0 : ((add64c (IntKind.u64.wrap (t357)) 0 (add64c (IntKind.u64.wrap (t358)) (IntKind.u64.wrap (a1)) 0)) == 0) = false := beq_eq_false_iff_ne.mpr c15
    have c15b1 : ((add64c (IntKind.u64.wrap (t357)) 0 (add64c (IntKind.u64.wrap (t358)) (IntKind.u64.wrap (a1)) 0)) != 0) = true := bne_iff_ne.mpr c15
    simp only [Option.some.injEq, Prod.mk.injEq] at H
    obtain ⟨rfl, rfl, rfl, rfl⟩ := H
    go_enter Try.func43, Try.ntmps43
    go_wp2_with (first | ((with_reducible refine gate_dst (N := 2) rfl ?_); refine box_event ?hg (N := 2) ?hd (cs := #[.bool a0_0, .int .i64 a0_1, .int .i64 a0_2]) (t := 29) ?hr ?_; (case hd => rfl); (case hg => rfl); (case hr => first | (go_simp; done) | (go_simp; rfl)); intro gb354 hg w23 hbox hb; have n0_ := Aside0.mk (below_step (hb_ HB.out) hb); have n1_ := Aside0.mk (hbox); have n2_ := bg_ hg (below_size (hb_ HB.out)); have n3_ := bg_ hg (below_size (hb_ HB.out)); clear HB; have HB := n0_; have BK354 := n1_; have GW354 := n2_; have GE354 := n3_; clear n0_ n1_ n2_ n3_; clear hb hbox hg) | ((with_reducible refine gate_dst (N := 4) rfl ?_); refine box_event ?hg (N := 4) ?hd (cs := #[.bool false, .int .i64 0, .int .i64 0]) (t := 29) ?hr ?_; (case hd => rfl); (case hg => rfl); (case hr => first | (go_simp; done) | (go_simp; rfl)); intro gb355 hg w24 hbox hb; have n0_ := Aside0.mk (blk_below (bk_ BK354.out) hb); have n1_ := Aside0.mk (below_step (hc_ HB.out GE354.out) hb); have n2_ := Aside0.mk (hbox); have n3_ := bg_ hg (below_size (hc_ HB.out GE354.out)); have n4_ := bg_ hg (below_size (hc_ HB.out GE354.out)); have n5_ := bn_ hg (blk_lt (bk_ BK354.out)); have n6_ := bm_ hg (blk_lt (bk_ BK354.out)); clear BK354; clear HB; have BK354 := n0_; have HB := n1_; have BK355 := n2_; have GW355 := n3_; have GE355 := n4_; have NB354_355 := n5_; have NB355_354 := n6_; clear n0_ n1_ n2_ n3_ n4_ n5_ n6_; clear hb hbox hg; have hnb25 := NB354_355.out; have hnc25 := NB355_354.out; obtain ⟨hcz26_0, hcz26_1, hcz26_2, hfz26_0, hfz26_1, hfz26_2⟩ := bc3_ BK354.out) | ((with_reducible refine gate_callee (f := 101) rfl ?_); refine goesL_ (some 11) rfl rfl Try.func101 (by kernel_rfl) rfl #[.agg #[.bool a0_0, .int .i64 a0_1, .int .i64 a0_2]] rfl al_ ?_; (with_reducible refine (impl_right.calls a0_0 a0_1 a0_2 true t357 t358 _ A3.out).mono ?_); rintro e w27 ⟨rfl, hb⟩; refine ⟨_, rfl, ?_⟩; have n0_ := Aside0.mk (blk_below (bk_ BK354.out) hb); have n1_ := Aside0.mk (blk_below (bk_ BK355.out) hb); have n2_ := Aside0.mk (below_step (hd_ HB.out GE354.out GE355.out) hb); clear BK354; clear BK355; clear HB; have BK354 := n0_; have BK355 := n1_; have HB := n2_; clear n0_ n1_ n2_; (try clear hb); (try clear hb2); (try clear hk); (try clear hi); obtain ⟨hcz28_0, hcz28_1, hcz28_2, hfz28_0, hfz28_1, hfz28_2⟩ := bc3_ BK354.out; obtain ⟨hcz29_0, hcz29_1, hcz29_2, hfz29_0, hfz29_1, hfz29_2⟩ := bc3_ BK355.out))
    refine bodyPost_ret (results_ct rfl _ _ gb355 29 #[.bool false, .int .i64 0, .int .i64 0] (0, 0) _ rfl (by refine bk_ ?_; refine blk_put (cs := #[.bool false, .int .i64 0, .int .i64 0]) ?_ 2 _ rfl; refine bk_ ?_; refine blk_put (cs := #[.bool false, .int .i64 0, .int .i64 0]) ?_ 1 _ rfl; refine bk_ ?_; refine blk_put (cs := #[.bool false, .int .i64 0, .int .i64 0]) ?_ 0 _ rfl; refine bk_ ?_; refine blk_far ?_ NB355_354.out _; refine bk_ ?_; refine blk_far ?_ NB355_354.out _; refine bk_ ?_; refine blk_far ?_ NB355_354.out _; refine bk_ ?_; exact BK355.out) Try.underlying29 rfl (by kernel_rfl)) rfl ?_
    exact ⟨pe_, hd_ HB.out GE354.out GE355.out⟩
  ·replace c12 := Bool.eq_false_iff.mpr c12
   subst c12
   have H1 : (if a1 > (wrap64 (4294967295 - t358)) then (some (false, 0, 0, false)) else (some (false, 0, wrap64 (t358 + a1), true))) = some (r1, r2, r3, r4) := by rw [if_neg (show ¬ (false = true) by decide)] at H; exact H
   clear H
   have H := H1
   clear H1
   by_cases c30 : a1 > (wrap64 (4294967295 - t358))
   ·rw [if_pos c30] at H
    have c30b0 : decide ((wrap64 (4294967295 - t358)) < a1) = true := decide_eq_true c30
    clear c30
    simp only [Option.some.injEq, Prod.mk.injEq] at H
    obtain ⟨rfl, rfl, rfl, rfl⟩ := H
    go_enter Try.func43, Try.ntmps43
    go_wp2_with (first | ((with_reducible refine gate_dst (N := 2) rfl ?_); refine box_event ?hg (N := 2) ?hd (cs := #[.bool a0_0, .int .i64 a0_1, .int .i64 a0_2]) (t := 29) ?hr ?_; (case hd => rfl); (case hg => rfl); (case hr => first | (go_simp; done) | (go_simp; rfl)); intro gb354 hg w31 hbox hb; have n0_ := Aside0.mk (below_step (hb_ HB.out) hb); have n1_ := Aside0.mk (hbox); have n2_ := bg_ hg (below_size (hb_ HB.out)); have n3_ := bg_ hg (below_size (hb_ HB.out)); clear HB; have HB := n0_; have BK354 := n1_; have GW354 := n2_; have GE354 := n3_; clear n0_ n1_ n2_ n3_; clear hb hbox hg) | ((with_reducible refine gate_dst (N := 4) rfl ?_); refine box_event ?hg (N := 4) ?hd (cs := #[.bool false, .int .i64 0, .int .i64 0]) (t := 29) ?hr ?_; (case hd => rfl); (case hg => rfl); (case hr => first | (go_simp; done) | (go_simp; rfl)); intro gb355 hg w32 hbox hb; have n0_ := Aside0.mk (blk_below (bk_ BK354.out) hb); have n1_ := Aside0.mk (below_step (hc_ HB.out GE354.out) hb); have n2_ := Aside0.mk (hbox); have n3_ := bg_ hg (below_size (hc_ HB.out GE354.out)); have n4_ := bg_ hg (below_size (hc_ HB.out GE354.out)); have n5_ := bn_ hg (blk_lt (bk_ BK354.out)); have n6_ := bm_ hg (blk_lt (bk_ BK354.out)); clear BK354; clear HB; have BK354 := n0_; have HB := n1_; have BK355 := n2_; have GW355 := n3_; have GE355 := n4_; have NB354_355 := n5_; have NB355_354 := n6_; clear n0_ n1_ n2_ n3_ n4_ n5_ n6_; clear hb hbox hg; have hnb33 := NB354_355.out; have hnc33 := NB355_354.out; obtain ⟨hcz34_0, hcz34_1, hcz34_2, hfz34_0, hfz34_1, hfz34_2⟩ := bc3_ BK354.out) | ((with_reducible refine gate_callee (f := 101) rfl ?_); refine goesL_ (some 11) rfl rfl Try.func101 (by kernel_rfl) rfl #[.agg #[.bool a0_0, .int .i64 a0_1, .int .i64 a0_2]] rfl al_ ?_; (with_reducible refine (impl_right.calls a0_0 a0_1 a0_2 false t357 t358 _ A3.out).mono ?_); rintro e w35 ⟨rfl, hb⟩; refine ⟨_, rfl, ?_⟩; have n0_ := Aside0.mk (blk_below (bk_ BK354.out) hb); have n1_ := Aside0.mk (blk_below (bk_ BK355.out) hb); have n2_ := Aside0.mk (below_step (hd_ HB.out GE354.out GE355.out) hb); clear BK354; clear BK355; clear HB; have BK354 := n0_; have BK355 := n1_; have HB := n2_; clear n0_ n1_ n2_; (try clear hb); (try clear hb2); (try clear hk); (try clear hi); obtain ⟨hcz36_0, hcz36_1, hcz36_2, hfz36_0, hfz36_1, hfz36_2⟩ := bc3_ BK354.out; obtain ⟨hcz37_0, hcz37_1, hcz37_2, hfz37_0, hfz37_1, hfz37_2⟩ := bc3_ BK355.out))
    refine bodyPost_ret (results_ct rfl _ _ gb355 29 #[.bool false, .int .i64 0, .int .i64 0] (0, 0) _ rfl (by refine bk_ ?_; refine blk_put (cs := #[.bool false, .int .i64 0, .int .i64 0]) ?_ 2 _ rfl; refine bk_ ?_; refine blk_put (cs := #[.bool false, .int .i64 0, .int .i64 0]) ?_ 1 _ rfl; refine bk_ ?_; refine blk_put (cs := #[.bool false, .int .i64 0, .int .i64 0]) ?_ 0 _ rfl; refine bk_ ?_; refine blk_far ?_ NB355_354.out _; refine bk_ ?_; refine blk_far ?_ NB355_354.out _; refine bk_ ?_; refine blk_far ?_ NB355_354.out _; refine bk_ ?_; exact BK355.out) Try.underlying29 rfl (by kernel_rfl)) rfl ?_
    exact ⟨pe_, hd_ HB.out GE354.out GE355.out⟩
   ·rw [if_neg c30] at H
    have c30b0 : decide ((wrap64 (4294967295 - t358)) < a1) = false := decide_eq_false c30
    clear c30
    simp only [Option.some.injEq, Prod.mk.injEq] at H
    obtain ⟨rfl, rfl, rfl, rfl⟩ := H
    go_enter Try.func43, Try.ntmps43
    go_wp2_with (first | ((with_reducible refine gate_dst (N := 2) rfl ?_); refine box_event ?hg (N := 2) ?hd (cs := #[.bool a0_0, .int .i64 a0_1, .int .i64 a0_2]) (t := 29) ?hr ?_; (case hd => rfl); (case hg => rfl); (case hr => first | (go_simp; done) | (go_simp; rfl)); intro gb354 hg w38 hbox hb; have n0_ := Aside0.mk (below_step (hb_ HB.out) hb); have n1_ := Aside0.mk (hbox); have n2_ := bg_ hg (below_size (hb_ HB.out)); have n3_ := bg_ hg (below_size (hb_ HB.out)); clear HB; have HB := n0_; have BK354 := n1_; have GW354 := n2_; have GE354 := n3_; clear n0_ n1_ n2_ n3_; clear hb hbox hg) | ((with_reducible refine gate_dst (N := 4) rfl ?_); refine box_event ?hg (N := 4) ?hd (cs := #[.bool false, .int .i64 0, .int .i64 0]) (t := 29) ?hr ?_; (case hd => rfl); (case hg => rfl); (case hr => first | (go_simp; done) | (go_simp; rfl)); intro gb355 hg w39 hbox hb; have n0_ := Aside0.mk (blk_below (bk_ BK354.out) hb); have n1_ := Aside0.mk (below_step (hc_ HB.out GE354.out) hb); have n2_ := Aside0.mk (hbox); have n3_ := bg_ hg (below_size (hc_ HB.out GE354.out)); have n4_ := bg_ hg (below_size (hc_ HB.out GE354.out)); have n5_ := bn_ hg (blk_lt (bk_ BK354.out)); have n6_ := bm_ hg (blk_lt (bk_ BK354.out)); clear BK354; clear HB; have BK354 := n0_; have HB := n1_; have BK355 := n2_; have GW355 := n3_; have GE355 := n4_; have NB354_355 := n5_; have NB355_354 := n6_; clear n0_ n1_ n2_ n3_ n4_ n5_ n6_; clear hb hbox hg; have hnb40 := NB354_355.out; have hnc40 := NB355_354.out; obtain ⟨hcz41_0, hcz41_1, hcz41_2, hfz41_0, hfz41_1, hfz41_2⟩ := bc3_ BK354.out) | ((with_reducible refine gate_callee (f := 101) rfl ?_); refine goesL_ (some 11) rfl rfl Try.func101 (by kernel_rfl) rfl #[.agg #[.bool a0_0, .int .i64 a0_1, .int .i64 a0_2]] rfl al_ ?_; (with_reducible refine (impl_right.calls a0_0 a0_1 a0_2 false t357 t358 _ A3.out).mono ?_); rintro e w42 ⟨rfl, hb⟩; refine ⟨_, rfl, ?_⟩; have n0_ := Aside0.mk (blk_below (bk_ BK354.out) hb); have n1_ := Aside0.mk (blk_below (bk_ BK355.out) hb); have n2_ := Aside0.mk (below_step (hd_ HB.out GE354.out GE355.out) hb); clear BK354; clear BK355; clear HB; have BK354 := n0_; have BK355 := n1_; have HB := n2_; clear n0_ n1_ n2_; (try clear hb); (try clear hb2); (try clear hk); (try clear hi); obtain ⟨hcz43_0, hcz43_1, hcz43_2, hfz43_0, hfz43_1, hfz43_2⟩ := bc3_ BK354.out; obtain ⟨hcz44_0, hcz44_1, hcz44_2, hfz44_0, hfz44_1, hfz44_2⟩ := bc3_ BK355.out))
    refine bodyPost_ret (results_ct rfl _ _ gb355 29 #[.bool false, .int .i64 0, .int .i64 (wrap64 (t358 + a1))] (0, 0) _ rfl (by refine bk_ ?_; refine blk_put (cs := #[.bool false, .int .i64 0, .int .i64 0]) ?_ 2 _ rfl; refine bk_ ?_; refine blk_put (cs := #[.bool false, .int .i64 0, .int .i64 0]) ?_ 1 _ rfl; refine bk_ ?_; refine blk_put (cs := #[.bool false, .int .i64 0, .int .i64 0]) ?_ 0 _ rfl; refine bk_ ?_; refine blk_far ?_ NB355_354.out _; refine bk_ ?_; refine blk_far ?_ NB355_354.out _; refine bk_ ?_; refine blk_far ?_ NB355_354.out _; refine bk_ ?_; exact BK355.out) Try.underlying29 rfl (by kernel_rfl)) rfl ?_
    exact ⟨pe_, hd_ HB.out GE354.out GE355.out⟩

end Go.Proofs.Ythakdhdoeejkmaa.QFnHalved
