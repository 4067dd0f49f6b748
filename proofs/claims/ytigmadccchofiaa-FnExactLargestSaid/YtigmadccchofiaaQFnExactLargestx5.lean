-- Written by a program of this session (wip/myprint.py); Lean checks it.
import Derived.Test.YtigmadccchofiaaQFnExactLargestx0
import Derived.Test.YtigmadccchofiaaQFnExactLargestx2
import Derived.Test.YtigmadccchofiaaQFnExactLargestx3
namespace Go.Proofs.Ytigmadccchofiaa.QFnExactLargest
open Go.RowKit Go.Proofs.YtigmadccchofiaaW.PrintWords Go.Proofs.YtigmadccchofiaaW.PrintLast Go.Proofs.YtigmadccchofiaaW.PrintMore
open Act (put)
open List (setIfInBounds_toArray set_cons_zero set_cons_succ)
attribute [local go_sem] max2_int min2_int max_two min_two max_three min_three max_four min_four   -- for this text's walks alone
set_option linter.unusedVariables false
set_option linter.unusedSimpArgs false

attribute [local go_sem] isSome_setCell
/-! ### spec_l2Last: function 119 -/
def spec_l2Last.f (a0_0 : Bool) (a0_1 : Int) (a0_2 : Int) (a0_3 : Int) : Option (Bool × Int × Int) := if a0_0 = true then ((spec_l2High.f a0_3).bind fun t144 => ((spec_l2High.f (wrap64 (a0_3 - 64))).bind fun t145 => (some (true, wrap64 (Go.bits .or .u64 (IntKind.u64.wrap (a0_1)) (Go.bits BinOp.xor IntKind.u64 (if IntKind.u64.signed = true then -1 else IntKind.u64.max) t144)), wrap64 (Go.bits .or .u64 (IntKind.u64.wrap (a0_2)) (Go.bits BinOp.xor IntKind.u64 (if IntKind.u64.signed = true then -1 else IntKind.u64.max) t145)))))) else ((spec_l2High.f a0_3).bind fun t146 => (some (false, 0, Go.bits .or .i64 a0_2 (wrap64 ((Go.bits BinOp.xor IntKind.u64 (if IntKind.u64.signed = true then -1 else IntKind.u64.max) t146) / 4294967296)))))
def spec_l2Last.T2 : Bool × List (List Nat × List Nat) := (true, [([], []), ([0], [0]), ([1], [1]), ([], []), ([3], [3]), ([4], [4]), ([5], [5]), ([6], [6]), ([7], [7]), ([2, 8], [2, 8]), ([9], [9]), ([10, 5, 0, 1, 2, 3, 4, 5, 6, 7, 8, 9, 10], [10])])
def spec_l2Last.B2 : List Nat := [0, 1, 3, 0, 8, 24, 56, 120, 248, 511, 1023, 2047]
theorem spec_l2Last.tab2 : rtab .any (opsOf Try.f119 2) = spec_l2Last.T2 := by kernel_rfl
theorem spec_l2Last.bits2 : waitsOk spec_l2Last.T2.2 spec_l2Last.B2 = true := by kernel_rfl
def spec_l2Last.T3 : Bool × List (List Nat × List Nat) := (true, [([], []), ([0], [0]), ([1], [1]), ([2], [2]), ([], []), ([4], [4]), ([5], [5]), ([6], [6]), ([3, 7], [3, 7]), ([8], [8]), ([], []), ([10], [10]), ([11], [11]), ([12], [12]), ([], []), ([14], [14]), ([15], [15]), ([16, 6], [16]), ([17], [17]), ([13, 18], [13, 18]), ([19], [19]), ([9, 20], [9, 20]), ([21, 17, 0, 1, 2, 3, 4, 5, 6, 7, 8, 9, 10, 11, 12, 13, 14, 15, 16, 17, 18, 19, 20, 21], [21])])
def spec_l2Last.B3 : List Nat := [0, 1, 3, 7, 0, 16, 48, 112, 255, 511, 0, 1024, 3072, 7168, 0, 16384, 49152, 114800, 245872, 523376, 1047664, 2097151, 4194303]
theorem spec_l2Last.tab3 : rtab .any (opsOf Try.f119 3) = spec_l2Last.T3 := by kernel_rfl
theorem spec_l2Last.bits3 : waitsOk spec_l2Last.T3.2 spec_l2Last.B3 = true := by kernel_rfl
set_option maxHeartbeats 8000000 in
set_option maxRecDepth 100000 in
theorem spec_l2Last.calls (a0_0 : Bool) (a0_1 : Int) (a0_2 : Int) (a0_3 : Int) (r1 : Bool) (r2 : Int) (r3 : Int) (w : World) (h : spec_l2Last.f a0_0 a0_1 a0_2 a0_3 = some (r1, r2, r3)) :
  Calls Try.prog 119 #[.agg #[.bool a0_0, .int .i64 a0_1, .int .i64 a0_2, .int .i64 a0_3]] w fun e w' => e = .returned (.agg #[.bool r1, .int .i64 r2, .int .i64 r3]) ∧ Below w.heap.size w w' := by
 have hu32 := Try.underlying32
 have hu26 := Try.underlying26
 have HB := Aside0.mk (Below.refl w.heap.size w)
 have H : (if a0_0 = true then ((spec_l2High.f a0_3).bind fun t144 => ((spec_l2High.f (wrap64 (a0_3 - 64))).bind fun t145 => (some (true, wrap64 (Go.bits .or .u64 (IntKind.u64.wrap (a0_1)) (Go.bits BinOp.xor IntKind.u64 (if IntKind.u64.signed = true then -1 else IntKind.u64.max) t144)), wrap64 (Go.bits .or .u64 (IntKind.u64.wrap (a0_2)) (Go.bits BinOp.xor IntKind.u64 (if IntKind.u64.signed = true then -1 else IntKind.u64.max) t145)))))) else ((spec_l2High.f a0_3).bind fun t146 => (some (false, 0, Go.bits .or .i64 a0_2 (wrap64 ((Go.bits BinOp.xor IntKind.u64 (if IntKind.u64.signed = true then -1 else IntKind.u64.max) t146) / 4294967296)))))) = some (r1, r2, r3) := h
 clear h
 by_cases c2 : a0_0 = true
 ·subst c2
  have H1 : ((spec_l2High.f a0_3).bind fun t144 => ((spec_l2High.f (wrap64 (a0_3 - 64))).bind fun t145 => (some (true, wrap64 (Go.bits .or .u64 (IntKind.u64.wrap (a0_1)) (Go.bits BinOp.xor IntKind.u64 (if IntKind.u64.signed = true then -1 else IntKind.u64.max) t144)), wrap64 (Go.bits .or .u64 (IntKind.u64.wrap (a0_2)) (Go.bits BinOp.xor IntKind.u64 (if IntKind.u64.signed = true then -1 else IntKind.u64.max) t145)))))) = some (r1, r2, r3) := by rw [if_pos rfl] at H; exact H
  clear H
  have H := H1
  clear H1
  replace H := Option.bind_eq_some_iff.mp H
  obtain ⟨t144, A30, H⟩ := H
  replace H : ((spec_l2High.f (wrap64 (a0_3 - 64))).bind fun t145 => (some (true, wrap64 (Go.bits .or .u64 (IntKind.u64.wrap (a0_1)) (Go.bits BinOp.xor IntKind.u64 (if IntKind.u64.signed = true then -1 else IntKind.u64.max) t144)), wrap64 (Go.bits .or .u64 (IntKind.u64.wrap (a0_2)) (Go.bits BinOp.xor IntKind.u64 (if IntKind.u64.signed = true then -1 else IntKind.u64.max) t145))))) = some (r1, r2, r3) := H
  have A3 := Aside0.mk A30
  clear A30
  replace H := Option.bind_eq_some_iff.mp H
  obtain ⟨t145, A40, H⟩ := H
  replace H : (some (true, wrap64 (Go.bits .or .u64 (IntKind.u64.wrap (a0_1)) (Go.bits BinOp.xor IntKind.u64 (if IntKind.u64.signed = true then -1 else IntKind.u64.max) t144)), wrap64 (Go.bits .or .u64 (IntKind.u64.wrap (a0_2)) (Go.bits BinOp.xor IntKind.u64 (if IntKind.u64.signed = true then -1 else IntKind.u64.max) t145)))) = some (r1, r2, r3) := H
  have A4 := Aside0.mk A40
  clear A40
  simp only [Option.some.injEq, Prod.mk.injEq] at H
  obtain ⟨rfl, rfl, rfl⟩ := H
  go_enter Try.func119, Try.ntmps119
  try go_wp2_with (first | ((with_reducible refine gate_dst (N := 1) rfl ?_); refine box_event ?hg (N := 1) ?hd (cs := #[.bool true, .int .i64 a0_1, .int .i64 a0_2, .int .i64 a0_3]) (t := 32) ?hr ?_; (case hd => rfl); (case hg => rfl); (case hr => first | (go_simp; done) | (go_simp; rfl)); intro gb142 hg w5 hbox hb; have n0_ := Aside0.mk (below_step (hb_ HB.out) hb); have n1_ := Aside0.mk (hbox); have n2_ := bg_ hg (below_size (hb_ HB.out)); have n3_ := bg_ hg (below_size (hb_ HB.out)); clear HB; have HB := n0_; have BK142 := n1_; have GW142 := n2_; have GE142 := n3_; clear n0_ n1_ n2_ n3_; clear hb hbox hg) | ((with_reducible refine gate_dst (N := 2) rfl ?_); refine box_event ?hg (N := 2) ?hd (cs := #[.bool false, .int .i64 0, .int .i64 0]) (t := 26) ?hr ?_; (case hd => rfl); (case hg => rfl); (case hr => first | (go_simp; done) | (go_simp; rfl)); intro gb143 hg w6 hbox hb; have n0_ := Aside0.mk (blk_below (bk_ BK142.out) hb); have n1_ := Aside0.mk (below_step (hc_ HB.out GE142.out) hb); have n2_ := Aside0.mk (hbox); have n3_ := bg_ hg (below_size (hc_ HB.out GE142.out)); have n4_ := bg_ hg (below_size (hc_ HB.out GE142.out)); have n5_ := bn_ hg (blk_lt (bk_ BK142.out)); have n6_ := bm_ hg (blk_lt (bk_ BK142.out)); clear BK142; clear HB; have BK142 := n0_; have HB := n1_; have BK143 := n2_; have GW143 := n3_; have GE143 := n4_; have NB142_143 := n5_; have NB143_142 := n6_; clear n0_ n1_ n2_ n3_ n4_ n5_ n6_; clear hb hbox hg; have hnb7 := NB142_143.out; have hnc7 := NB143_142.out; obtain ⟨hcz8_0, hcz8_1, hcz8_2, hcz8_3, hfz8_0, hfz8_1, hfz8_2, hfz8_3⟩ := bc4_ BK142.out))
  have n0_ := Aside0.mk (blk_drew BK142.out)
  have n1_ := Aside0.mk (blk_drew BK143.out)
  have n2_ := Aside0.mk (below_drew1 HB.out)
  clear BK142
  clear BK143
  clear HB
  have BK142 := n0_
  have BK143 := n1_
  have HB := n2_
  clear n0_ n1_ n2_
  refine start_ (n := 23) (S := fun w' => w'.cell? ⟨gb142, 0, none⟩ = some (.bool true) ∧ w'.cell? ⟨gb142, 1, none⟩ = some (.int .i64 a0_1) ∧ w'.cell? ⟨gb142, 2, none⟩ = some (.int .i64 a0_2) ∧ w'.cell? ⟨gb142, 3, none⟩ = some (.int .i64 a0_3)) (ds := []) #[false, false, false, false, false, false, false, false, false, false, false, false, false, false, false, false, false, false, false, false, false, false, false] (by kernel_rfl) rfl rfl ⟨(blk_cell BK142.out 0).trans rfl, (blk_cell BK142.out 1).trans rfl, (blk_cell BK142.out 2).trans rfl, (blk_cell BK142.out 3).trans rfl⟩ (fun hHeld => ?_); refine with_tabW spec_l2Last.tab3 spec_l2Last.bits3 (fun HT_ HW_ => ?_)
  generalize w6.drew = w9 at BK142 BK143 HB hHeld ⊢
  refine pure_ (i := 0) (N := some 18) (v := ?_) (a' := ?_) #[true, false, false, false, false, false, false, false, false, false, false, false, false, false, false, false, false, false, false, false, false, false, false] rfl rfl (any_of HT_.out (by kernel_rfl)) (fun _ _ _ h => h) (Or.inl ⟨by rfl, ?_⟩) ?_ ?_
  rotate_left
  ·intro w'
   go_simp
   with_reducible rfl
  rotate_left
  ·simp only [put, setIfInBounds_toArray, set_cons_zero, set_cons_succ, i64_w, i32_w]
   rfl
  refine pure_ (i := 1) (N := some 19) (v := ?_) (a' := ?_) #[true, true, false, false, false, false, false, false, false, false, false, false, false, false, false, false, false, false, false, false, false, false, false] rfl rfl (any_of HT_.out (by kernel_rfl)) (fun _ _ _ h => h) (Or.inl ⟨by rfl, ?_⟩) ?_ ?_
  rotate_left
  ·intro w'
   go_simp
   with_reducible rfl
  rotate_left
  ·simp only [put, setIfInBounds_toArray, set_cons_zero, set_cons_succ, i64_w, i32_w]
   rfl
  refine pure_ (i := 4) (N := some 22) (v := ?_) (a' := ?_) #[true, true, false, false, true, false, false, false, false, false, false, false, false, false, false, false, false, false, false, false, false, false, false] rfl rfl (any_of HT_.out (by kernel_rfl)) (fun _ _ _ h => h) (Or.inl ⟨by rfl, ?_⟩) ?_ ?_
  rotate_left
  ·intro w'
   go_simp
   with_reducible rfl
  rotate_left
  ·simp only [put, setIfInBounds_toArray, set_cons_zero, set_cons_succ, i64_w, i32_w]
   rfl
  refine pure_ (i := 10) (N := some 28) (v := ?_) (a' := ?_) #[true, true, false, false, true, false, false, false, false, false, true, false, false, false, false, false, false, false, false, false, false, false, false] rfl rfl (any_of HT_.out (by kernel_rfl)) (fun _ _ _ h => h) (Or.inl ⟨by rfl, ?_⟩) ?_ ?_
  rotate_left
  ·intro w'
   go_simp
   with_reducible rfl
  rotate_left
  ·simp only [put, setIfInBounds_toArray, set_cons_zero, set_cons_succ, i64_w, i32_w]
   rfl
  refine pure_ (i := 11) (N := some 29) (v := ?_) (a' := ?_) #[true, true, false, false, true, false, false, false, false, false, true, true, false, false, false, false, false, false, false, false, false, false, false] rfl rfl (any_of HT_.out (by kernel_rfl)) (fun _ _ _ h => h) (Or.inl ⟨by rfl, ?_⟩) ?_ ?_
  rotate_left
  ·intro w'
   go_simp
   with_reducible rfl
  rotate_left
  ·simp only [put, setIfInBounds_toArray, set_cons_zero, set_cons_succ, i64_w, i32_w]
   rfl
  refine pure_ (i := 14) (N := some 32) (v := ?_) (a' := ?_) #[true, true, false, false, true, false, false, false, false, false, true, true, false, false, true, false, false, false, false, false, false, false, false] rfl rfl (any_of HT_.out (by kernel_rfl)) (fun _ _ _ h => h) (Or.inl ⟨by rfl, ?_⟩) ?_ ?_
  rotate_left
  ·intro w'
   go_simp
   with_reducible rfl
  rotate_left
  ·simp only [put, setIfInBounds_toArray, set_cons_zero, set_cons_succ, i64_w, i32_w]
   rfl
  refine take_ (i := 2) (N := some 20) (v := ?_) (a' := ?_) #[true, true, true, false, true, false, false, false, false, false, true, true, false, false, true, false, false, false, false, false, false, false, false] rfl rfl (take_ofW HT_.out HW_.out (by kernel_rfl)) (fun _ _ _ h => h) (Or.inl ⟨by rfl, ?_⟩) hHeld ?_ ?_
  rotate_left
  ·rintro w' ⟨s0, s1, s2, s3⟩
   go_simp
   with_reducible rfl
  rotate_left
  ·simp only [put, setIfInBounds_toArray, set_cons_zero, set_cons_succ, i64_w, i32_w]
   rfl
  refine pure_ (i := 3) (N := some 21) (v := ?_) (a' := ?_) #[true, true, true, true, true, false, false, false, false, false, true, true, false, false, true, false, false, false, false, false, false, false, false] rfl rfl (any_of HT_.out (by kernel_rfl)) (fun _ _ _ h => h) (Or.inl ⟨by rfl, ?_⟩) ?_ ?_
  rotate_left
  ·intro w'
   go_simp
   with_reducible rfl
  rotate_left
  ·simp only [put, setIfInBounds_toArray, set_cons_zero, set_cons_succ, i64_w, i32_w]
   rfl
  refine take_ (i := 5) (N := some 23) (v := ?_) (a' := ?_) #[true, true, true, true, true, true, false, false, false, false, true, true, false, false, true, false, false, false, false, false, false, false, false] rfl rfl (take_ofW HT_.out HW_.out (by kernel_rfl)) (fun _ _ _ h => h) (Or.inl ⟨by rfl, ?_⟩) hHeld ?_ ?_
  rotate_left
  ·rintro w' ⟨s0, s1, s2, s3⟩
   go_simp
   with_reducible rfl
  rotate_left
  ·simp only [put, setIfInBounds_toArray, set_cons_zero, set_cons_succ, i64_w, i32_w]
   rfl
  refine take_ (i := 12) (N := some 30) (v := ?_) (a' := ?_) #[true, true, true, true, true, true, false, false, false, false, true, true, true, false, true, false, false, false, false, false, false, false, false] rfl rfl (take_ofW HT_.out HW_.out (by kernel_rfl)) (fun _ _ _ h => h) (Or.inl ⟨by rfl, ?_⟩) hHeld ?_ ?_
  rotate_left
  ·rintro w' ⟨s0, s1, s2, s3⟩
   go_simp
   with_reducible rfl
  rotate_left
  ·simp only [put, setIfInBounds_toArray, set_cons_zero, set_cons_succ, i64_w, i32_w]
   rfl
  refine pure_ (i := 13) (N := some 31) (v := ?_) (a' := ?_) #[true, true, true, true, true, true, false, false, false, false, true, true, true, true, true, false, false, false, false, false, false, false, false] rfl rfl (any_of HT_.out (by kernel_rfl)) (fun _ _ _ h => h) (Or.inl ⟨by rfl, ?_⟩) ?_ ?_
  rotate_left
  ·intro w'
   go_simp
   with_reducible rfl
  rotate_left
  ·simp only [put, setIfInBounds_toArray, set_cons_zero, set_cons_succ, i64_w, i32_w]
   rfl
  refine take_ (i := 15) (N := some 33) (v := ?_) (a' := ?_) #[true, true, true, true, true, true, false, false, false, false, true, true, true, true, true, true, false, false, false, false, false, false, false] rfl rfl (take_ofW HT_.out HW_.out (by kernel_rfl)) (fun _ _ _ h => h) (Or.inl ⟨by rfl, ?_⟩) hHeld ?_ ?_
  rotate_left
  ·rintro w' ⟨s0, s1, s2, s3⟩
   go_simp
   with_reducible rfl
  rotate_left
  ·simp only [put, setIfInBounds_toArray, set_cons_zero, set_cons_succ, i64_w, i32_w]
   rfl
  refine pure_ (i := 16) (N := some 34) (v := ?_) (a' := ?_) #[true, true, true, true, true, true, false, false, false, false, true, true, true, true, true, true, true, false, false, false, false, false, false] rfl rfl (any_of HT_.out (by kernel_rfl)) (fun _ _ _ h => h) (Or.inl ⟨by rfl, ?_⟩) ?_ ?_
  rotate_left
  ·intro w'
   go_simp
   with_reducible rfl
  rotate_left
  ·simp only [put, setIfInBounds_toArray, set_cons_zero, set_cons_succ, i64_w, i32_w]
   rfl
  refine one_ (i := 6) (N := some 24) #[true, true, true, true, true, true, true, false, false, false, true, true, true, true, true, true, true, false, false, false, false, false, false] rfl rfl (one_of HT_.out (by kernel_rfl)) (by decide) (fun K hK => ?_)
  refine goes_ Try.func132 (by kernel_rfl) rfl #[.int .i64 a0_3] (by rfl) rfl rfl al_ ?_
  with_reducible refine (spec_l2High.calls a0_3 t144 _ A3.out).mono ?_
  rintro e w' ⟨rfl, ⟨nd, rfl⟩⟩
  refine ⟨_, rfl, ?_⟩
  refine hK.out _ _ ⟨(blk_cell BK142.out 0).trans rfl, (blk_cell BK142.out 1).trans rfl, (blk_cell BK142.out 2).trans rfl, (blk_cell BK142.out 3).trans rfl⟩ (fun hHeld => ?_)
  clear hK K
  refine norm_ (a' := ?_) ?_ ?_
  rotate_left
  ·show Act.put _ (some 24) _ = _
   simp only [put, setIfInBounds_toArray, set_cons_zero, set_cons_succ, i64_w, i32_w]
   rfl
  refine pure_ (i := 7) (N := some 25) (v := ?_) (a' := ?_) #[true, true, true, true, true, true, true, true, false, false, true, true, true, true, true, true, true, false, false, false, false, false, false] rfl rfl (any_of HT_.out (by kernel_rfl)) (fun _ _ _ h => h) (Or.inl ⟨by rfl, ?_⟩) ?_ ?_
  rotate_left
  ·intro w'
   go_simp
   with_reducible rfl
  rotate_left
  ·simp only [put, setIfInBounds_toArray, set_cons_zero, set_cons_succ, i64_w, i32_w]
   rfl
  refine pure_ (i := 8) (N := some 26) (v := ?_) (a' := ?_) #[true, true, true, true, true, true, true, true, true, false, true, true, true, true, true, true, true, false, false, false, false, false, false] rfl rfl (any_of HT_.out (by kernel_rfl)) (fun _ _ _ h => h) (Or.inl ⟨by rfl, ?_⟩) ?_ ?_
  rotate_left
  ·intro w'
   go_simp
   with_reducible rfl
  rotate_left
  ·simp only [put, setIfInBounds_toArray, set_cons_zero, set_cons_succ, i64_w, i32_w]
   rfl
  refine pure_ (i := 9) (N := some 27) (v := ?_) (a' := ?_) #[true, true, true, true, true, true, true, true, true, true, true, true, true, true, true, true, true, false, false, false, false, false, false] rfl rfl (any_of HT_.out (by kernel_rfl)) (fun _ _ _ h => h) (Or.inl ⟨by rfl, ?_⟩) ?_ ?_
  rotate_left
  ·intro w'
   go_simp
   with_reducible rfl
  rotate_left
  ·simp only [put, setIfInBounds_toArray, set_cons_zero, set_cons_succ, i64_w, i32_w]
   rfl
  refine one_ (i := 17) (N := some 35) #[true, true, true, true, true, true, true, true, true, true, true, true, true, true, true, true, true, true, false, false, false, false, false] rfl rfl (one_of HT_.out (by kernel_rfl)) (by decide) (fun K hK => ?_)
  refine goes_ Try.func132 (by kernel_rfl) rfl #[.int .i64 (wrap64 (a0_3 - 64))] (by rfl) rfl rfl al_ ?_
  with_reducible refine (spec_l2High.calls (wrap64 (a0_3 - 64)) t145 _ A4.out).mono ?_
  rintro e w' ⟨rfl, ⟨nd, rfl⟩⟩
  refine ⟨_, rfl, ?_⟩
  refine hK.out _ _ ⟨(blk_cell BK142.out 0).trans rfl, (blk_cell BK142.out 1).trans rfl, (blk_cell BK142.out 2).trans rfl, (blk_cell BK142.out 3).trans rfl⟩ (fun hHeld => ?_)
  clear hK K
  refine norm_ (a' := ?_) ?_ ?_
  rotate_left
  ·show Act.put _ (some 35) _ = _
   simp only [put, setIfInBounds_toArray, set_cons_zero, set_cons_succ, i64_w, i32_w]
   rfl
  refine pure_ (i := 18) (N := some 36) (v := ?_) (a' := ?_) #[true, true, true, true, true, true, true, true, true, true, true, true, true, true, true, true, true, true, true, false, false, false, false] rfl rfl (any_of HT_.out (by kernel_rfl)) (fun _ _ _ h => h) (Or.inl ⟨by rfl, ?_⟩) ?_ ?_
  rotate_left
  ·intro w'
   go_simp
   with_reducible rfl
  rotate_left
  ·simp only [put, setIfInBounds_toArray, set_cons_zero, set_cons_succ, i64_w, i32_w]
   rfl
  refine pure_ (i := 19) (N := some 37) (v := ?_) (a' := ?_) #[true, true, true, true, true, true, true, true, true, true, true, true, true, true, true, true, true, true, true, true, false, false, false] rfl rfl (any_of HT_.out (by kernel_rfl)) (fun _ _ _ h => h) (Or.inl ⟨by rfl, ?_⟩) ?_ ?_
  rotate_left
  ·intro w'
   go_simp
   with_reducible rfl
  rotate_left
  ·simp only [put, setIfInBounds_toArray, set_cons_zero, set_cons_succ, i64_w, i32_w]
   rfl
  refine pure_ (i := 20) (N := some 38) (v := ?_) (a' := ?_) #[true, true, true, true, true, true, true, true, true, true, true, true, true, true, true, true, true, true, true, true, true, false, false] rfl rfl (any_of HT_.out (by kernel_rfl)) (fun _ _ _ h => h) (Or.inl ⟨by rfl, ?_⟩) ?_ ?_
  rotate_left
  ·intro w'
   go_simp
   with_reducible rfl
  rotate_left
  ·simp only [put, setIfInBounds_toArray, set_cons_zero, set_cons_succ, i64_w, i32_w]
   rfl
  refine pure_ (i := 21) (N := some 39) (v := ?_) (a' := ?_) #[true, true, true, true, true, true, true, true, true, true, true, true, true, true, true, true, true, true, true, true, true, true, false] rfl rfl (any_of HT_.out (by kernel_rfl)) (fun _ _ _ h => h) (Or.inl ⟨by rfl, ?_⟩) ?_ ?_
  rotate_left
  ·intro w'
   go_simp
   with_reducible rfl
  rotate_left
  ·simp only [put, setIfInBounds_toArray, set_cons_zero, set_cons_succ, i64_w, i32_w]
   rfl
  refine one_ (i := 22) (N := none) #[true, true, true, true, true, true, true, true, true, true, true, true, true, true, true, true, true, true, true, true, true, true, true] rfl rfl (one_of HT_.out (by kernel_rfl)) (by decide) (fun K hK => ?_)
  have hs10 : w9.cell? ⟨gb143, 0, none⟩ = some (.bool false) := (blk_cell BK143.out 0).trans rfl
  have hfs10 := blk_frozen BK143.out 0
  have hns10_0 := NB142_143.out
  have hms10_0 := NB143_142.out
  have hs11 : w9.cell? ⟨gb143, 1, none⟩ = some (.int .i64 0) := (blk_cell BK143.out 1).trans rfl
  have hfs11 := blk_frozen BK143.out 1
  have hns11_0 := NB142_143.out
  have hms11_0 := NB143_142.out
  have hs12 : w9.cell? ⟨gb143, 2, none⟩ = some (.int .i64 0) := (blk_cell BK143.out 2).trans rfl
  have hfs12 := blk_frozen BK143.out 2
  have hns12_0 := NB142_143.out
  have hms12_0 := NB143_142.out
  refine skip_ (w1 := ?_) (by rfl) rfl ?_ ?_
  rotate_left
  ·go_simp
   rfl
  refine hK.out _ _ ⟨((cell_far (p := ⟨gb143, _, none⟩) NB142_143.out _).trans (((cell_far (p := ⟨gb143, _, none⟩) NB142_143.out _).trans (((cell_far (p := ⟨gb143, _, none⟩) NB142_143.out _).trans (hHeld.1)))))), ((cell_far (p := ⟨gb143, _, none⟩) NB142_143.out _).trans (((cell_far (p := ⟨gb143, _, none⟩) NB142_143.out _).trans (((cell_far (p := ⟨gb143, _, none⟩) NB142_143.out _).trans (hHeld.2.1)))))), ((cell_far (p := ⟨gb143, _, none⟩) NB142_143.out _).trans (((cell_far (p := ⟨gb143, _, none⟩) NB142_143.out _).trans (((cell_far (p := ⟨gb143, _, none⟩) NB142_143.out _).trans (hHeld.2.2.1)))))), ((cell_far (p := ⟨gb143, _, none⟩) NB142_143.out _).trans (((cell_far (p := ⟨gb143, _, none⟩) NB142_143.out _).trans (((cell_far (p := ⟨gb143, _, none⟩) NB142_143.out _).trans (hHeld.2.2.2))))))⟩ (fun hHeld => ?_)
  clear hK K
  refine done_ (done_of HT_.out (by kernel_rfl)) ?_
  try go_wp2
  refine bodyPost_ret (results_cell_row rfl _ _ gb143 26 #[.bool true, .int .i64 (wrap64 (Go.bits .or .u64 (IntKind.u64.wrap (a0_1)) (Go.bits BinOp.xor IntKind.u64 (if IntKind.u64.signed = true then -1 else IntKind.u64.max) t144))), .int .i64 (wrap64 (Go.bits .or .u64 (IntKind.u64.wrap (a0_2)) (Go.bits BinOp.xor IntKind.u64 (if IntKind.u64.signed = true then -1 else IntKind.u64.max) t145)))] (0, 0) _ rfl (by refine bk_ ?_; refine blk_put (cs := #[.bool true, .int .i64 (wrap64 (Go.bits .or .u64 (IntKind.u64.wrap (a0_1)) (Go.bits BinOp.xor IntKind.u64 (if IntKind.u64.signed = true then -1 else IntKind.u64.max) t144))), .int .i64 0]) ?_ 2 _ rfl; refine bk_ ?_; refine blk_put (cs := #[.bool true, .int .i64 0, .int .i64 0]) ?_ 1 _ rfl; refine bk_ ?_; refine blk_put (cs := #[.bool false, .int .i64 0, .int .i64 0]) ?_ 0 _ rfl; refine bk_ ?_; exact BK143.out) Try.underlying26 rfl (by kernel_rfl)) rfl ?_
  exact ⟨pe_, hd_ HB.out GE142.out GE143.out⟩
 ·replace c2 := Bool.eq_false_iff.mpr c2
  subst c2
  have H1 : ((spec_l2High.f a0_3).bind fun t146 => (some (false, 0, Go.bits .or .i64 a0_2 (wrap64 ((Go.bits BinOp.xor IntKind.u64 (if IntKind.u64.signed = true then -1 else IntKind.u64.max) t146) / 4294967296))))) = some (r1, r2, r3) := by rw [if_neg (show ¬ (false = true) by decide)] at H; exact H
  clear H
  have H := H1
  clear H1
  replace H := Option.bind_eq_some_iff.mp H
  obtain ⟨t146, A130, H⟩ := H
  replace H : (some (false, 0, Go.bits .or .i64 a0_2 (wrap64 ((Go.bits BinOp.xor IntKind.u64 (if IntKind.u64.signed = true then -1 else IntKind.u64.max) t146) / 4294967296)))) = some (r1, r2, r3) := H
  have A13 := Aside0.mk A130
  clear A130
  simp only [Option.some.injEq, Prod.mk.injEq] at H
  obtain ⟨rfl, rfl, rfl⟩ := H
  go_enter Try.func119, Try.ntmps119
  try go_wp2_with (first | ((with_reducible refine gate_dst (N := 1) rfl ?_); refine box_event ?hg (N := 1) ?hd (cs := #[.bool false, .int .i64 a0_1, .int .i64 a0_2, .int .i64 a0_3]) (t := 32) ?hr ?_; (case hd => rfl); (case hg => rfl); (case hr => first | (go_simp; done) | (go_simp; rfl)); intro gb142 hg w14 hbox hb; have n0_ := Aside0.mk (below_step (hb_ HB.out) hb); have n1_ := Aside0.mk (hbox); have n2_ := bg_ hg (below_size (hb_ HB.out)); have n3_ := bg_ hg (below_size (hb_ HB.out)); clear HB; have HB := n0_; have BK142 := n1_; have GW142 := n2_; have GE142 := n3_; clear n0_ n1_ n2_ n3_; clear hb hbox hg) | ((with_reducible refine gate_dst (N := 2) rfl ?_); refine box_event ?hg (N := 2) ?hd (cs := #[.bool false, .int .i64 0, .int .i64 0]) (t := 26) ?hr ?_; (case hd => rfl); (case hg => rfl); (case hr => first | (go_simp; done) | (go_simp; rfl)); intro gb143 hg w15 hbox hb; have n0_ := Aside0.mk (blk_below (bk_ BK142.out) hb); have n1_ := Aside0.mk (below_step (hc_ HB.out GE142.out) hb); have n2_ := Aside0.mk (hbox); have n3_ := bg_ hg (below_size (hc_ HB.out GE142.out)); have n4_ := bg_ hg (below_size (hc_ HB.out GE142.out)); have n5_ := bn_ hg (blk_lt (bk_ BK142.out)); have n6_ := bm_ hg (blk_lt (bk_ BK142.out)); clear BK142; clear HB; have BK142 := n0_; have HB := n1_; have BK143 := n2_; have GW143 := n3_; have GE143 := n4_; have NB142_143 := n5_; have NB143_142 := n6_; clear n0_ n1_ n2_ n3_ n4_ n5_ n6_; clear hb hbox hg; have hnb16 := NB142_143.out; have hnc16 := NB143_142.out; obtain ⟨hcz17_0, hcz17_1, hcz17_2, hcz17_3, hfz17_0, hfz17_1, hfz17_2, hfz17_3⟩ := bc4_ BK142.out))
  have n0_ := Aside0.mk (blk_drew BK142.out)
  have n1_ := Aside0.mk (blk_drew BK143.out)
  have n2_ := Aside0.mk (below_drew1 HB.out)
  clear BK142
  clear BK143
  clear HB
  have BK142 := n0_
  have BK143 := n1_
  have HB := n2_
  clear n0_ n1_ n2_
  refine start_ (n := 12) (S := fun w' => w'.cell? ⟨gb142, 0, none⟩ = some (.bool false) ∧ w'.cell? ⟨gb142, 1, none⟩ = some (.int .i64 a0_1) ∧ w'.cell? ⟨gb142, 2, none⟩ = some (.int .i64 a0_2) ∧ w'.cell? ⟨gb142, 3, none⟩ = some (.int .i64 a0_3)) (ds := []) #[false, false, false, false, false, false, false, false, false, false, false, false] (by kernel_rfl) rfl rfl ⟨(blk_cell BK142.out 0).trans rfl, (blk_cell BK142.out 1).trans rfl, (blk_cell BK142.out 2).trans rfl, (blk_cell BK142.out 3).trans rfl⟩ (fun hHeld => ?_); refine with_tabW spec_l2Last.tab2 spec_l2Last.bits2 (fun HT_ HW_ => ?_)
  generalize w15.drew = w18 at BK142 BK143 HB hHeld ⊢
  refine pure_ (i := 0) (N := some 7) (v := ?_) (a' := ?_) #[true, false, false, false, false, false, false, false, false, false, false, false] rfl rfl (any_of HT_.out (by kernel_rfl)) (fun _ _ _ h => h) (Or.inl ⟨by rfl, ?_⟩) ?_ ?_
  rotate_left
  ·intro w'
   go_simp
   with_reducible rfl
  rotate_left
  ·simp only [put, setIfInBounds_toArray, set_cons_zero, set_cons_succ, i64_w, i32_w]
   rfl
  refine pure_ (i := 1) (N := some 8) (v := ?_) (a' := ?_) #[true, true, false, false, false, false, false, false, false, false, false, false] rfl rfl (any_of HT_.out (by kernel_rfl)) (fun _ _ _ h => h) (Or.inl ⟨by rfl, ?_⟩) ?_ ?_
  rotate_left
  ·intro w'
   go_simp
   with_reducible rfl
  rotate_left
  ·simp only [put, setIfInBounds_toArray, set_cons_zero, set_cons_succ, i64_w, i32_w]
   rfl
  refine pure_ (i := 3) (N := some 10) (v := ?_) (a' := ?_) #[true, true, false, true, false, false, false, false, false, false, false, false] rfl rfl (any_of HT_.out (by kernel_rfl)) (fun _ _ _ h => h) (Or.inl ⟨by rfl, ?_⟩) ?_ ?_
  rotate_left
  ·intro w'
   go_simp
   with_reducible rfl
  rotate_left
  ·simp only [put, setIfInBounds_toArray, set_cons_zero, set_cons_succ, i64_w, i32_w]
   rfl
  refine take_ (i := 2) (N := some 9) (v := ?_) (a' := ?_) #[true, true, true, true, false, false, false, false, false, false, false, false] rfl rfl (take_ofW HT_.out HW_.out (by kernel_rfl)) (fun _ _ _ h => h) (Or.inl ⟨by rfl, ?_⟩) hHeld ?_ ?_
  rotate_left
  ·rintro w' ⟨s0, s1, s2, s3⟩
   go_simp
   with_reducible rfl
  rotate_left
  ·simp only [put, setIfInBounds_toArray, set_cons_zero, set_cons_succ, i64_w, i32_w]
   rfl
  refine take_ (i := 4) (N := some 11) (v := ?_) (a' := ?_) #[true, true, true, true, true, false, false, false, false, false, false, false] rfl rfl (take_ofW HT_.out HW_.out (by kernel_rfl)) (fun _ _ _ h => h) (Or.inl ⟨by rfl, ?_⟩) hHeld ?_ ?_
  rotate_left
  ·rintro w' ⟨s0, s1, s2, s3⟩
   go_simp
   with_reducible rfl
  rotate_left
  ·simp only [put, setIfInBounds_toArray, set_cons_zero, set_cons_succ, i64_w, i32_w]
   rfl
  refine one_ (i := 5) (N := some 12) #[true, true, true, true, true, true, false, false, false, false, false, false] rfl rfl (one_of HT_.out (by kernel_rfl)) (by decide) (fun K hK => ?_)
  refine goes_ Try.func132 (by kernel_rfl) rfl #[.int .i64 a0_3] (by rfl) rfl rfl al_ ?_
  with_reducible refine (spec_l2High.calls a0_3 t146 _ A13.out).mono ?_
  rintro e w' ⟨rfl, ⟨nd, rfl⟩⟩
  refine ⟨_, rfl, ?_⟩
  refine hK.out _ _ ⟨(blk_cell BK142.out 0).trans rfl, (blk_cell BK142.out 1).trans rfl, (blk_cell BK142.out 2).trans rfl, (blk_cell BK142.out 3).trans rfl⟩ (fun hHeld => ?_)
  clear hK K
  refine norm_ (a' := ?_) ?_ ?_
  rotate_left
  ·show Act.put _ (some 12) _ = _
   simp only [put, setIfInBounds_toArray, set_cons_zero, set_cons_succ, i64_w, i32_w]
   rfl
  refine pure_ (i := 6) (N := some 13) (v := ?_) (a' := ?_) #[true, true, true, true, true, true, true, false, false, false, false, false] rfl rfl (any_of HT_.out (by kernel_rfl)) (fun _ _ _ h => h) (Or.inl ⟨by rfl, ?_⟩) ?_ ?_
  rotate_left
  ·intro w'
   go_simp
   with_reducible rfl
  rotate_left
  ·simp only [put, setIfInBounds_toArray, set_cons_zero, set_cons_succ, i64_w, i32_w]
   rfl
  refine pure_ (i := 7) (N := some 14) (v := ?_) (a' := ?_) #[true, true, true, true, true, true, true, true, false, false, false, false] rfl rfl (any_of HT_.out (by kernel_rfl)) (fun _ _ _ h => h) (Or.inl ⟨by rfl, ?_⟩) ?_ ?_
  rotate_left
  ·intro w'
   go_simp
   with_reducible rfl
  rotate_left
  ·simp only [put, setIfInBounds_toArray, set_cons_zero, set_cons_succ, i64_w, i32_w]
   rfl
  refine pure_ (i := 8) (N := some 15) (v := ?_) (a' := ?_) #[true, true, true, true, true, true, true, true, true, false, false, false] rfl rfl (any_of HT_.out (by kernel_rfl)) (fun _ _ _ h => h) (Or.inl ⟨by rfl, ?_⟩) ?_ ?_
  rotate_left
  ·intro w'
   go_simp
   with_reducible rfl
  rotate_left
  ·simp only [put, setIfInBounds_toArray, set_cons_zero, set_cons_succ, i64_w, i32_w]
   rfl
  refine pure_ (i := 9) (N := some 16) (v := ?_) (a' := ?_) #[true, true, true, true, true, true, true, true, true, true, false, false] rfl rfl (any_of HT_.out (by kernel_rfl)) (fun _ _ _ h => h) (Or.inl ⟨by rfl, ?_⟩) ?_ ?_
  rotate_left
  ·intro w'
   go_simp
   with_reducible rfl
  rotate_left
  ·simp only [put, setIfInBounds_toArray, set_cons_zero, set_cons_succ, i64_w, i32_w]
   rfl
  refine pure_ (i := 10) (N := some 17) (v := ?_) (a' := ?_) #[true, true, true, true, true, true, true, true, true, true, true, false] rfl rfl (any_of HT_.out (by kernel_rfl)) (fun _ _ _ h => h) (Or.inl ⟨by rfl, ?_⟩) ?_ ?_
  rotate_left
  ·intro w'
   go_simp
   with_reducible rfl
  rotate_left
  ·simp only [put, setIfInBounds_toArray, set_cons_zero, set_cons_succ, i64_w, i32_w]
   rfl
  refine one_ (i := 11) (N := none) #[true, true, true, true, true, true, true, true, true, true, true, true] rfl rfl (one_of HT_.out (by kernel_rfl)) (by decide) (fun K hK => ?_)
  have hs19 : w18.cell? ⟨gb143, 0, none⟩ = some (.bool false) := (blk_cell BK143.out 0).trans rfl
  have hfs19 := blk_frozen BK143.out 0
  have hns19_0 := NB142_143.out
  have hms19_0 := NB143_142.out
  have hs20 : w18.cell? ⟨gb143, 1, none⟩ = some (.int .i64 0) := (blk_cell BK143.out 1).trans rfl
  have hfs20 := blk_frozen BK143.out 1
  have hns20_0 := NB142_143.out
  have hms20_0 := NB143_142.out
  have hs21 : w18.cell? ⟨gb143, 2, none⟩ = some (.int .i64 0) := (blk_cell BK143.out 2).trans rfl
  have hfs21 := blk_frozen BK143.out 2
  have hns21_0 := NB142_143.out
  have hms21_0 := NB143_142.out
  refine skip_ (w1 := ?_) (by rfl) rfl ?_ ?_
  rotate_left
  ·go_simp
   rfl
  refine hK.out _ _ ⟨((cell_far (p := ⟨gb143, _, none⟩) NB142_143.out _).trans (((cell_far (p := ⟨gb143, _, none⟩) NB142_143.out _).trans (((cell_far (p := ⟨gb143, _, none⟩) NB142_143.out _).trans (hHeld.1)))))), ((cell_far (p := ⟨gb143, _, none⟩) NB142_143.out _).trans (((cell_far (p := ⟨gb143, _, none⟩) NB142_143.out _).trans (((cell_far (p := ⟨gb143, _, none⟩) NB142_143.out _).trans (hHeld.2.1)))))), ((cell_far (p := ⟨gb143, _, none⟩) NB142_143.out _).trans (((cell_far (p := ⟨gb143, _, none⟩) NB142_143.out _).trans (((cell_far (p := ⟨gb143, _, none⟩) NB142_143.out _).trans (hHeld.2.2.1)))))), ((cell_far (p := ⟨gb143, _, none⟩) NB142_143.out _).trans (((cell_far (p := ⟨gb143, _, none⟩) NB142_143.out _).trans (((cell_far (p := ⟨gb143, _, none⟩) NB142_143.out _).trans (hHeld.2.2.2))))))⟩ (fun hHeld => ?_)
  clear hK K
  refine done_ (done_of HT_.out (by kernel_rfl)) ?_
  try go_wp2
  refine bodyPost_ret (results_cell_row rfl _ _ gb143 26 #[.bool false, .int .i64 0, .int .i64 (Go.bits .or .i64 a0_2 (wrap64 ((Go.bits BinOp.xor IntKind.u64 (if IntKind.u64.signed = true then -1 else IntKind.u64.max) t146) / 4294967296)))] (0, 0) _ rfl (by refine bk_ ?_; refine blk_put (cs := #[.bool false, .int .i64 0, .int .i64 0]) ?_ 2 _ rfl; refine bk_ ?_; refine blk_put (cs := #[.bool false, .int .i64 0, .int .i64 0]) ?_ 1 _ rfl; refine bk_ ?_; refine blk_put (cs := #[.bool false, .int .i64 0, .int .i64 0]) ?_ 0 _ rfl; refine bk_ ?_; exact BK143.out) Try.underlying26 rfl (by kernel_rfl)) rfl ?_
  exact ⟨pe_, hd_ HB.out GE142.out GE143.out⟩

/-! ### spec_l2Halves: function 79 -/
def spec_l2Halves.f (a0_0 : Bool) (a0_1 : Int) (a0_2 : Int) (a0_3 : Int) : Option (Bool × Int × Int × Int × Bool × Int × Int × Int) := (spec_l2Last.f a0_0 a0_1 a0_2 a0_3).bind fun bt151 => ((spec_l2Mask.f bt151.1 bt151.2.1 bt151.2.2 (wrap64 (a0_3 + 1))).bind fun bt155 => (some (a0_0, a0_1, a0_2, wrap64 (a0_3 + 1), bt155.1, bt155.2.1, bt155.2.2, wrap64 (a0_3 + 1))))
def spec_l2Halves.T3 : Bool × List (List Nat × List Nat) := (true, [([], []), ([], []), ([], []), ([2], [2]), ([3], [3]), ([1, 4], [1, 4]), ([], []), ([6], [6]), ([7], [7]), ([5, 8], [5, 8]), ([0, 5, 0], [0]), ([9, 10, 0, 1, 2, 3, 4, 5, 6, 7, 8, 9, 10], [9])])
def spec_l2Halves.B3 : List Nat := [0, 0, 0, 4, 12, 30, 0, 64, 192, 510, 63, 2047]
theorem spec_l2Halves.tab3 : rtab .any (opsOf Try.f79 3) = spec_l2Halves.T3 := by kernel_rfl
theorem spec_l2Halves.bits3 : waitsOk spec_l2Halves.T3.2 spec_l2Halves.B3 = true := by kernel_rfl
set_option maxHeartbeats 8000000 in
set_option maxRecDepth 100000 in
theorem spec_l2Halves.calls (a0_0 : Bool) (a0_1 : Int) (a0_2 : Int) (a0_3 : Int) (r1 : Bool) (r2 : Int) (r3 : Int) (r4 : Int) (r5 : Bool) (r6 : Int) (r7 : Int) (r8 : Int) (w : World) (h : spec_l2Halves.f a0_0 a0_1 a0_2 a0_3 = some (r1, r2, r3, r4, r5, r6, r7, r8)) :
  Calls Try.prog 79 #[.agg #[.bool a0_0, .int .i64 a0_1, .int .i64 a0_2, .int .i64 a0_3]] w fun e w' => e = .returned (.tuple #[.agg #[.bool r1, .int .i64 r2, .int .i64 r3, .int .i64 r4], .agg #[.bool r5, .int .i64 r6, .int .i64 r7, .int .i64 r8]]) ∧ Below w.heap.size w w' := by
 have hu32 := Try.underlying32
 have hu26 := Try.underlying26
 have HB := Aside0.mk (Below.refl w.heap.size w)
 have H : ((spec_l2Last.f a0_0 a0_1 a0_2 a0_3).bind fun bt151 => ((spec_l2Mask.f bt151.1 bt151.2.1 bt151.2.2 (wrap64 (a0_3 + 1))).bind fun bt155 => (some (a0_0, a0_1, a0_2, wrap64 (a0_3 + 1), bt155.1, bt155.2.1, bt155.2.2, wrap64 (a0_3 + 1))))) = some (r1, r2, r3, r4, r5, r6, r7, r8) := h
 clear h
 replace H := Option.bind_eq_some_iff.mp H
 obtain ⟨⟨t151, t152, t153⟩, A20, H⟩ := H
 replace H : ((spec_l2Mask.f t151 t152 t153 (wrap64 (a0_3 + 1))).bind fun bt155 => (some (a0_0, a0_1, a0_2, wrap64 (a0_3 + 1), bt155.1, bt155.2.1, bt155.2.2, wrap64 (a0_3 + 1)))) = some (r1, r2, r3, r4, r5, r6, r7, r8) := H
 have A2 := Aside0.mk A20
 clear A20
 replace H := Option.bind_eq_some_iff.mp H
 obtain ⟨⟨t155, t156, t157⟩, A30, H⟩ := H
 replace H : (some (a0_0, a0_1, a0_2, wrap64 (a0_3 + 1), t155, t156, t157, wrap64 (a0_3 + 1))) = some (r1, r2, r3, r4, r5, r6, r7, r8) := H
 have A3 := Aside0.mk A30
 clear A30
 simp only [Option.some.injEq, Prod.mk.injEq] at H
 obtain ⟨rfl, rfl, rfl, rfl, rfl, rfl, rfl, rfl⟩ := H
 go_enter Try.func79, Try.ntmps79
 try go_wp2_with (first | ((with_reducible refine gate_dst (N := 1) rfl ?_); refine box_event ?hg (N := 1) ?hd (cs := #[.bool a0_0, .int .i64 a0_1, .int .i64 a0_2, .int .i64 a0_3]) (t := 32) ?hr ?_; (case hd => rfl); (case hg => rfl); (case hr => first | (go_simp; done) | (go_simp; rfl)); intro gb147 hg w4 hbox hb; have n0_ := Aside0.mk (below_step (hb_ HB.out) hb); have n1_ := Aside0.mk (hbox); have n2_ := bg_ hg (below_size (hb_ HB.out)); have n3_ := bg_ hg (below_size (hb_ HB.out)); clear HB; have HB := n0_; have BK147 := n1_; have GW147 := n2_; have GE147 := n3_; clear n0_ n1_ n2_ n3_; clear hb hbox hg) | ((with_reducible refine gate_dst (N := 2) rfl ?_); refine box_event ?hg (N := 2) ?hd (cs := #[.bool false, .int .i64 0, .int .i64 0, .int .i64 0]) (t := 32) ?hr ?_; (case hd => rfl); (case hg => rfl); (case hr => first | (go_simp; done) | (go_simp; rfl)); intro gb148 hg w5 hbox hb; have n0_ := Aside0.mk (blk_below (bk_ BK147.out) hb); have n1_ := Aside0.mk (below_step (hc_ HB.out GE147.out) hb); have n2_ := Aside0.mk (hbox); have n3_ := bg_ hg (below_size (hc_ HB.out GE147.out)); have n4_ := bg_ hg (below_size (hc_ HB.out GE147.out)); have n5_ := bn_ hg (blk_lt (bk_ BK147.out)); have n6_ := bm_ hg (blk_lt (bk_ BK147.out)); clear BK147; clear HB; have BK147 := n0_; have HB := n1_; have BK148 := n2_; have GW148 := n3_; have GE148 := n4_; have NB147_148 := n5_; have NB148_147 := n6_; clear n0_ n1_ n2_ n3_ n4_ n5_ n6_; clear hb hbox hg) | ((with_reducible refine gate_dst (N := 3) rfl ?_); refine box_event ?hg (N := 3) ?hd (cs := #[.bool false, .int .i64 0, .int .i64 0, .int .i64 0]) (t := 32) ?hr ?_; (case hd => rfl); (case hg => rfl); (case hr => first | (go_simp; done) | (go_simp; rfl)); intro gb149 hg w6 hbox hb; have n0_ := Aside0.mk (blk_below (bk_ BK147.out) hb); have n1_ := Aside0.mk (blk_below (bk_ BK148.out) hb); have n2_ := Aside0.mk (below_step (hd_ HB.out GE147.out GE148.out) hb); have n3_ := Aside0.mk (hbox); have n4_ := bg_ hg (below_size (hd_ HB.out GE147.out GE148.out)); have n5_ := bg_ hg (below_size (hd_ HB.out GE147.out GE148.out)); have n6_ := bn_ hg (blk_lt (bk_ BK147.out)); have n7_ := bm_ hg (blk_lt (bk_ BK147.out)); have n8_ := bn_ hg (blk_lt (bk_ BK148.out)); have n9_ := bm_ hg (blk_lt (bk_ BK148.out)); clear BK147; clear BK148; clear HB; have BK147 := n0_; have BK148 := n1_; have HB := n2_; have BK149 := n3_; have GW149 := n4_; have GE149 := n5_; have NB147_149 := n6_; have NB149_147 := n7_; have NB148_149 := n8_; have NB149_148 := n9_; clear n0_ n1_ n2_ n3_ n4_ n5_ n6_ n7_ n8_ n9_; clear hb hbox hg; have hnb7 := NB147_148.out; have hnc7 := NB148_147.out; have hnb8 := NB147_149.out; have hnc8 := NB149_147.out; obtain ⟨hcz9_0, hcz9_1, hcz9_2, hcz9_3, hfz9_0, hfz9_1, hfz9_2, hfz9_3⟩ := bc4_ BK147.out) | ((with_reducible refine gate_dst (N := 4) rfl ?_); refine box_event ?hg (N := 4) ?hd (cs := #[.bool false, .int .i64 0, .int .i64 0, .int .i64 0]) (t := 32) ?hr ?_; (case hd => rfl); (case hg => rfl); (case hr => first | (go_simp; done) | (go_simp; rfl)); intro gb150 hg w10 hbox hb; have n0_ := Aside0.mk (blk_below (bk_ BK147.out) hb); have n1_ := Aside0.mk (blk_below (bk_ BK148.out) hb); have n2_ := Aside0.mk (blk_below (bk_ BK149.out) hb); have n3_ := Aside0.mk (below_step (by repeat (first | (with_reducible first | exact HB.out | apply below_alloc | apply pw_below_drewN | apply below_drew1 | refine below_set ?_ GE147.out | refine below_set ?_ GE148.out | refine below_set ?_ GE149.out) | exact HB.out)) hb); have n4_ := Aside0.mk (hbox); have n5_ := Aside0.mk ((by rw [hg]; exact (below_size (by repeat (first | (with_reducible first | exact HB.out | apply below_alloc | apply pw_below_drewN | apply below_drew1 | refine below_set ?_ GE147.out | refine below_set ?_ GE148.out | refine below_set ?_ GE149.out) | exact HB.out))) : w.heap.size ≤ gb150)); have n6_ := Aside0.mk ((by rw [hg]; exact (below_size (by repeat (first | (with_reducible first | exact HB.out | apply below_alloc | apply pw_below_drewN | apply below_drew1 | refine below_set ?_ GE147.out | refine below_set ?_ GE148.out | refine below_set ?_ GE149.out) | exact HB.out))) : w.heap.size ≤ gb150)); have n7_ := bn_ hg (blk_lt (bk_ BK147.out)); have n8_ := bm_ hg (blk_lt (bk_ BK147.out)); have n9_ := bn_ hg (blk_lt (bk_ BK148.out)); have n10_ := bm_ hg (blk_lt (bk_ BK148.out)); have n11_ := bn_ hg (blk_lt (bk_ BK149.out)); have n12_ := bm_ hg (blk_lt (bk_ BK149.out)); clear BK147; clear BK148; clear BK149; clear HB; have BK147 := n0_; have BK148 := n1_; have BK149 := n2_; have HB := n3_; have BK150 := n4_; have GW150 := n5_; have GE150 := n6_; have NB147_150 := n7_; have NB150_147 := n8_; have NB148_150 := n9_; have NB150_148 := n10_; have NB149_150 := n11_; have NB150_149 := n12_; clear n0_ n1_ n2_ n3_ n4_ n5_ n6_ n7_ n8_ n9_ n10_ n11_ n12_; clear hb hbox hg; have hnb11 := NB150_147.out; have hnc11 := NB147_150.out; have hnb12 := NB150_148.out; have hnc12 := NB148_150.out; have hnb13 := NB150_149.out; have hnc13 := NB149_150.out; obtain ⟨hcz14_0, hcz14_1, hcz14_2, hcz14_3, hfz14_0, hfz14_1, hfz14_2, hfz14_3⟩ := bc4_ BK150.out; obtain ⟨hcz15_0, hcz15_1, hcz15_2, hcz15_3, hfz15_0, hfz15_1, hfz15_2, hfz15_3⟩ := bc4_ BK147.out) | ((with_reducible refine gate_callee (f := 119) rfl ?_); refine goesL_ (some 13) rfl rfl Try.func119 (by kernel_rfl) rfl #[.agg #[.bool a0_0, .int .i64 a0_1, .int .i64 a0_2, .int .i64 a0_3]] rfl al_ ?_; (with_reducible refine (spec_l2Last.calls a0_0 a0_1 a0_2 a0_3 t151 t152 t153 _ A2.out).mono ?_); rintro e w16 ⟨rfl, hb⟩; refine ⟨_, rfl, ?_⟩; have n0_ := Aside0.mk (blk_below (g := gb147) (o := .cells #[.bool a0_0, .int .i64 a0_1, .int .i64 a0_2, .int .i64 a0_3] 32 (0, 0)) (by refine bk_ ?_; refine blk_far ?_ NB147_150.out _; refine bk_ ?_; refine blk_far ?_ NB147_150.out _; refine bk_ ?_; refine blk_far ?_ NB147_150.out _; refine bk_ ?_; refine blk_far ?_ NB147_150.out _; refine bk_ ?_; exact BK147.out) hb); have n1_ := Aside0.mk (blk_below (g := gb148) (o := .cells #[.bool false, .int .i64 0, .int .i64 0, .int .i64 0] 32 (0, 0)) (by refine bk_ ?_; refine blk_far ?_ NB148_150.out _; refine bk_ ?_; refine blk_far ?_ NB148_150.out _; refine bk_ ?_; refine blk_far ?_ NB148_150.out _; refine bk_ ?_; refine blk_far ?_ NB148_150.out _; refine bk_ ?_; exact BK148.out) hb); have n2_ := Aside0.mk (blk_below (g := gb149) (o := .cells #[.bool false, .int .i64 0, .int .i64 0, .int .i64 0] 32 (0, 0)) (by refine bk_ ?_; refine blk_far ?_ NB149_150.out _; refine bk_ ?_; refine blk_far ?_ NB149_150.out _; refine bk_ ?_; refine blk_far ?_ NB149_150.out _; refine bk_ ?_; refine blk_far ?_ NB149_150.out _; refine bk_ ?_; exact BK149.out) hb); have n3_ := Aside0.mk (blk_below (g := gb150) (o := .cells #[.bool a0_0, .int .i64 a0_1, .int .i64 a0_2, .int .i64 (wrap64 (a0_3 + 1))] 32 (0, 0)) (by refine bk_ ?_; refine blk_put (cs := #[.bool a0_0, .int .i64 a0_1, .int .i64 a0_2, .int .i64 0]) ?_ 3 _ rfl; refine bk_ ?_; refine blk_put (cs := #[.bool a0_0, .int .i64 a0_1, .int .i64 0, .int .i64 0]) ?_ 2 _ rfl; refine bk_ ?_; refine blk_put (cs := #[.bool a0_0, .int .i64 0, .int .i64 0, .int .i64 0]) ?_ 1 _ rfl; refine bk_ ?_; refine blk_put (cs := #[.bool false, .int .i64 0, .int .i64 0, .int .i64 0]) ?_ 0 _ rfl; refine bk_ ?_; exact BK150.out) hb); have n4_ := Aside0.mk (below_step (by repeat (first | (with_reducible first | exact HB.out | apply below_alloc | apply pw_below_drewN | apply below_drew1 | refine below_set ?_ GE147.out | refine below_set ?_ GE148.out | refine below_set ?_ GE149.out | refine below_set ?_ GE150.out) | exact HB.out)) hb); clear BK147; clear BK148; clear BK149; clear BK150; clear HB; have BK147 := n0_; have BK148 := n1_; have BK149 := n2_; have BK150 := n3_; have HB := n4_; clear n0_ n1_ n2_ n3_ n4_; (try clear hb); (try clear hb2); (try clear hk); (try clear hi)) | ((with_reducible refine gate_dst (N := 5) rfl ?_); refine box_event ?hg (N := 5) ?hd (cs := #[.bool false, .int .i64 0, .int .i64 0]) (t := 26) ?hr ?_; (case hd => rfl); (case hg => rfl); (case hr => first | (go_simp; done) | (go_simp; rfl)); intro gb154 hg w17 hbox hb; have n0_ := Aside0.mk (blk_below (bk_ BK147.out) hb); have n1_ := Aside0.mk (blk_below (bk_ BK148.out) hb); have n2_ := Aside0.mk (blk_below (bk_ BK149.out) hb); have n3_ := Aside0.mk (blk_below (bk_ BK150.out) hb); have n4_ := Aside0.mk (below_step (by repeat (first | (with_reducible first | exact HB.out | apply below_alloc | apply pw_below_drewN | apply below_drew1 | refine below_set ?_ GE147.out | refine below_set ?_ GE148.out | refine below_set ?_ GE149.out | refine below_set ?_ GE150.out) | exact HB.out)) hb); have n5_ := Aside0.mk (hbox); have n6_ := Aside0.mk ((by rw [hg]; exact (below_size (by repeat (first | (with_reducible first | exact HB.out | apply below_alloc | apply pw_below_drewN | apply below_drew1 | refine below_set ?_ GE147.out | refine below_set ?_ GE148.out | refine below_set ?_ GE149.out | refine below_set ?_ GE150.out) | exact HB.out))) : w.heap.size ≤ gb154)); have n7_ := Aside0.mk ((by rw [hg]; exact (below_size (by repeat (first | (with_reducible first | exact HB.out | apply below_alloc | apply pw_below_drewN | apply below_drew1 | refine below_set ?_ GE147.out | refine below_set ?_ GE148.out | refine below_set ?_ GE149.out | refine below_set ?_ GE150.out) | exact HB.out))) : w.heap.size ≤ gb154)); have n8_ := bn_ hg (blk_lt (bk_ BK147.out)); have n9_ := bm_ hg (blk_lt (bk_ BK147.out)); have n10_ := bn_ hg (blk_lt (bk_ BK148.out)); have n11_ := bm_ hg (blk_lt (bk_ BK148.out)); have n12_ := bn_ hg (blk_lt (bk_ BK149.out)); have n13_ := bm_ hg (blk_lt (bk_ BK149.out)); have n14_ := bn_ hg (blk_lt (bk_ BK150.out)); have n15_ := bm_ hg (blk_lt (bk_ BK150.out)); clear BK147; clear BK148; clear BK149; clear BK150; clear HB; have BK147 := n0_; have BK148 := n1_; have BK149 := n2_; have BK150 := n3_; have HB := n4_; have BK154 := n5_; have GW154 := n6_; have GE154 := n7_; have NB147_154 := n8_; have NB154_147 := n9_; have NB148_154 := n10_; have NB154_148 := n11_; have NB149_154 := n12_; have NB154_149 := n13_; have NB150_154 := n14_; have NB154_150 := n15_; clear n0_ n1_ n2_ n3_ n4_ n5_ n6_ n7_ n8_ n9_ n10_ n11_ n12_ n13_ n14_ n15_; clear hb hbox hg; have hnb18 := NB154_147.out; have hnc18 := NB147_154.out; have hnb19 := NB154_148.out; have hnc19 := NB148_154.out; have hnb20 := NB154_149.out; have hnc20 := NB149_154.out; have hnb21 := NB154_150.out; have hnc21 := NB150_154.out; obtain ⟨hcz22_0, hcz22_1, hcz22_2, hfz22_0, hfz22_1, hfz22_2⟩ := bc3_ BK154.out))
 have n0_ : Aside0 ((((w17.setCell ⟨gb154, 0, none⟩ (.bool t151)).setCell ⟨gb154, 1, none⟩ (.int .i64 t152)).setCell ⟨gb154, 2, none⟩ (.int .i64 t153)).heap[gb147]? = some (.cells #[.bool a0_0, .int .i64 a0_1, .int .i64 a0_2, .int .i64 a0_3] 32 (0, 0))) := ⟨by refine bk_ ?_; refine blk_far ?_ NB147_154.out _; refine bk_ ?_; refine blk_far ?_ NB147_154.out _; refine bk_ ?_; refine blk_far ?_ NB147_154.out _; refine bk_ ?_; exact BK147.out⟩
 have n1_ : Aside0 ((((w17.setCell ⟨gb154, 0, none⟩ (.bool t151)).setCell ⟨gb154, 1, none⟩ (.int .i64 t152)).setCell ⟨gb154, 2, none⟩ (.int .i64 t153)).heap[gb148]? = some (.cells #[.bool false, .int .i64 0, .int .i64 0, .int .i64 0] 32 (0, 0))) := ⟨by refine bk_ ?_; refine blk_far ?_ NB148_154.out _; refine bk_ ?_; refine blk_far ?_ NB148_154.out _; refine bk_ ?_; refine blk_far ?_ NB148_154.out _; refine bk_ ?_; exact BK148.out⟩
 have n2_ : Aside0 ((((w17.setCell ⟨gb154, 0, none⟩ (.bool t151)).setCell ⟨gb154, 1, none⟩ (.int .i64 t152)).setCell ⟨gb154, 2, none⟩ (.int .i64 t153)).heap[gb149]? = some (.cells #[.bool false, .int .i64 0, .int .i64 0, .int .i64 0] 32 (0, 0))) := ⟨by refine bk_ ?_; refine blk_far ?_ NB149_154.out _; refine bk_ ?_; refine blk_far ?_ NB149_154.out _; refine bk_ ?_; refine blk_far ?_ NB149_154.out _; refine bk_ ?_; exact BK149.out⟩
 have n3_ : Aside0 ((((w17.setCell ⟨gb154, 0, none⟩ (.bool t151)).setCell ⟨gb154, 1, none⟩ (.int .i64 t152)).setCell ⟨gb154, 2, none⟩ (.int .i64 t153)).heap[gb150]? = some (.cells #[.bool a0_0, .int .i64 a0_1, .int .i64 a0_2, .int .i64 (wrap64 (a0_3 + 1))] 32 (0, 0))) := ⟨by refine bk_ ?_; refine blk_far ?_ NB150_154.out _; refine bk_ ?_; refine blk_far ?_ NB150_154.out _; refine bk_ ?_; refine blk_far ?_ NB150_154.out _; refine bk_ ?_; exact BK150.out⟩
 have n4_ : Aside0 ((((w17.setCell ⟨gb154, 0, none⟩ (.bool t151)).setCell ⟨gb154, 1, none⟩ (.int .i64 t152)).setCell ⟨gb154, 2, none⟩ (.int .i64 t153)).heap[gb154]? = some (.cells #[.bool t151, .int .i64 t152, .int .i64 t153] 26 (0, 0))) := ⟨by refine bk_ ?_; refine blk_put (cs := #[.bool t151, .int .i64 t152, .int .i64 0]) ?_ 2 _ rfl; refine bk_ ?_; refine blk_put (cs := #[.bool t151, .int .i64 0, .int .i64 0]) ?_ 1 _ rfl; refine bk_ ?_; refine blk_put (cs := #[.bool false, .int .i64 0, .int .i64 0]) ?_ 0 _ rfl; refine bk_ ?_; exact BK154.out⟩
 have n5_ : Aside0 (Below w.heap.size w (((w17.setCell ⟨gb154, 0, none⟩ (.bool t151)).setCell ⟨gb154, 1, none⟩ (.int .i64 t152)).setCell ⟨gb154, 2, none⟩ (.int .i64 t153))) := ⟨by repeat (first | (with_reducible first | exact HB.out | apply below_alloc | apply pw_below_drewN | apply below_drew1 | refine below_set ?_ GE147.out | refine below_set ?_ GE148.out | refine below_set ?_ GE149.out | refine below_set ?_ GE150.out | refine below_set ?_ GE154.out) | exact HB.out)⟩
 (try clear BK147)
 (try clear BK148)
 (try clear BK149)
 (try clear BK150)
 (try clear BK154)
 (try clear HB)
 generalize (((w17.setCell ⟨gb154, 0, none⟩ (.bool t151)).setCell ⟨gb154, 1, none⟩ (.int .i64 t152)).setCell ⟨gb154, 2, none⟩ (.int .i64 t153)) = w23 at n0_ n1_ n2_ n3_ n4_ n5_ ⊢
 have BK147 := n0_
 have BK148 := n1_
 have BK149 := n2_
 have BK150 := n3_
 have BK154 := n4_
 have HB := n5_
 clear n0_ n1_ n2_ n3_ n4_ n5_
 have n0_ := Aside0.mk (blk_drew BK147.out)
 have n1_ := Aside0.mk (blk_drew BK148.out)
 have n2_ := Aside0.mk (blk_drew BK149.out)
 have n3_ := Aside0.mk (blk_drew BK150.out)
 have n4_ := Aside0.mk (blk_drew BK154.out)
 have n5_ := Aside0.mk (below_drew1 HB.out)
 clear BK147
 clear BK148
 clear BK149
 clear BK150
 clear BK154
 clear HB
 have BK147 := n0_
 have BK148 := n1_
 have BK149 := n2_
 have BK150 := n3_
 have BK154 := n4_
 have HB := n5_
 clear n0_ n1_ n2_ n3_ n4_ n5_
 refine start_ (n := 12) (S := fun w' => w'.cell? ⟨gb150, 0, none⟩ = some (.bool a0_0) ∧ w'.cell? ⟨gb150, 1, none⟩ = some (.int .i64 a0_1) ∧ w'.cell? ⟨gb150, 2, none⟩ = some (.int .i64 a0_2) ∧ w'.cell? ⟨gb150, 3, none⟩ = some (.int .i64 (wrap64 (a0_3 + 1))) ∧ w'.cell? ⟨gb154, 0, none⟩ = some (.bool t151) ∧ w'.cell? ⟨gb154, 1, none⟩ = some (.int .i64 t152) ∧ w'.cell? ⟨gb154, 2, none⟩ = some (.int .i64 t153) ∧ w'.cell? ⟨gb147, 0, none⟩ = some (.bool a0_0) ∧ w'.cell? ⟨gb147, 1, none⟩ = some (.int .i64 a0_1) ∧ w'.cell? ⟨gb147, 2, none⟩ = some (.int .i64 a0_2) ∧ w'.cell? ⟨gb147, 3, none⟩ = some (.int .i64 a0_3)) (ds := []) #[false, false, false, false, false, false, false, false, false, false, false, false] (by kernel_rfl) rfl rfl ⟨(blk_cell BK150.out 0).trans rfl, (blk_cell BK150.out 1).trans rfl, (blk_cell BK150.out 2).trans rfl, (blk_cell BK150.out 3).trans rfl, (blk_cell BK154.out 0).trans rfl, (blk_cell BK154.out 1).trans rfl, (blk_cell BK154.out 2).trans rfl, (blk_cell BK147.out 0).trans rfl, (blk_cell BK147.out 1).trans rfl, (blk_cell BK147.out 2).trans rfl, (blk_cell BK147.out 3).trans rfl⟩ (fun hHeld => ?_); refine with_tabW spec_l2Halves.tab3 spec_l2Halves.bits3 (fun HT_ HW_ => ?_)
 generalize w23.drew = w24 at BK147 BK148 BK149 BK150 BK154 HB hHeld ⊢
 refine pure_ (i := 2) (N := some 16) (v := ?_) (a' := ?_) #[false, false, true, false, false, false, false, false, false, false, false, false] rfl rfl (any_of HT_.out (by kernel_rfl)) (fun _ _ _ h => h) (Or.inl ⟨by rfl, ?_⟩) ?_ ?_
 rotate_left
 ·intro w'
  go_simp
  with_reducible rfl
 rotate_left
 ·simp only [put, setIfInBounds_toArray, set_cons_zero, set_cons_succ, i64_w, i32_w]
  rfl
 refine pure_ (i := 6) (N := some 20) (v := ?_) (a' := ?_) #[false, false, true, false, false, false, true, false, false, false, false, false] rfl rfl (any_of HT_.out (by kernel_rfl)) (fun _ _ _ h => h) (Or.inl ⟨by rfl, ?_⟩) ?_ ?_
 rotate_left
 ·intro w'
  go_simp
  with_reducible rfl
 rotate_left
 ·simp only [put, setIfInBounds_toArray, set_cons_zero, set_cons_succ, i64_w, i32_w]
  rfl
 refine take_ (i := 0) (N := some 14) (v := ?_) (a' := ?_) #[true, false, true, false, false, false, true, false, false, false, false, false] rfl rfl (take_ofW HT_.out HW_.out (by kernel_rfl)) (fun _ _ _ h => h) (Or.inl ⟨by rfl, ?_⟩) hHeld ?_ ?_
 rotate_left
 ·rintro w' ⟨s0, s1, s2, s3, s4, s5, s6, s7, s8, s9, s10⟩
  go_simp
  with_reducible rfl
 rotate_left
 ·simp only [put, setIfInBounds_toArray, set_cons_zero, set_cons_succ, i64_w, i32_w]
  rfl
 refine take_ (i := 1) (N := some 15) (v := ?_) (a' := ?_) #[true, true, true, false, false, false, true, false, false, false, false, false] rfl rfl (take_ofW HT_.out HW_.out (by kernel_rfl)) (fun _ _ _ h => h) (Or.inl ⟨by rfl, ?_⟩) hHeld ?_ ?_
 rotate_left
 ·rintro w' ⟨s0, s1, s2, s3, s4, s5, s6, s7, s8, s9, s10⟩
  go_simp
  with_reducible rfl
 rotate_left
 ·simp only [put, setIfInBounds_toArray, set_cons_zero, set_cons_succ, i64_w, i32_w]
  rfl
 refine take_ (i := 3) (N := some 17) (v := ?_) (a' := ?_) #[true, true, true, true, false, false, true, false, false, false, false, false] rfl rfl (take_ofW HT_.out HW_.out (by kernel_rfl)) (fun _ _ _ h => h) (Or.inl ⟨by rfl, ?_⟩) hHeld ?_ ?_
 rotate_left
 ·rintro w' ⟨s0, s1, s2, s3, s4, s5, s6, s7, s8, s9, s10⟩
  go_simp
  with_reducible rfl
 rotate_left
 ·simp only [put, setIfInBounds_toArray, set_cons_zero, set_cons_succ, i64_w, i32_w]
  rfl
 refine pure_ (i := 4) (N := some 18) (v := ?_) (a' := ?_) #[true, true, true, true, true, false, true, false, false, false, false, false] rfl rfl (any_of HT_.out (by kernel_rfl)) (fun _ _ _ h => h) (Or.inl ⟨by rfl, ?_⟩) ?_ ?_
 rotate_left
 ·intro w'
  go_simp
  with_reducible rfl
 rotate_left
 ·simp only [put, setIfInBounds_toArray, set_cons_zero, set_cons_succ, i64_w, i32_w]
  rfl
 refine take_ (i := 7) (N := some 21) (v := ?_) (a' := ?_) #[true, true, true, true, true, false, true, true, false, false, false, false] rfl rfl (take_ofW HT_.out HW_.out (by kernel_rfl)) (fun _ _ _ h => h) (Or.inl ⟨by rfl, ?_⟩) hHeld ?_ ?_
 rotate_left
 ·rintro w' ⟨s0, s1, s2, s3, s4, s5, s6, s7, s8, s9, s10⟩
  go_simp
  with_reducible rfl
 rotate_left
 ·simp only [put, setIfInBounds_toArray, set_cons_zero, set_cons_succ, i64_w, i32_w]
  rfl
 refine pure_ (i := 8) (N := some 22) (v := ?_) (a' := ?_) #[true, true, true, true, true, false, true, true, true, false, false, false] rfl rfl (any_of HT_.out (by kernel_rfl)) (fun _ _ _ h => h) (Or.inl ⟨by rfl, ?_⟩) ?_ ?_
 rotate_left
 ·intro w'
  go_simp
  with_reducible rfl
 rotate_left
 ·simp only [put, setIfInBounds_toArray, set_cons_zero, set_cons_succ, i64_w, i32_w]
  rfl
 refine one_ (i := 5) (N := some 19) #[true, true, true, true, true, true, true, true, true, false, false, false] rfl rfl (one_of HT_.out (by kernel_rfl)) (by decide) (fun K hK => ?_)
 refine goes_ Try.func114 (by kernel_rfl) rfl #[.agg #[.bool t151, .int .i64 t152, .int .i64 t153], .int .i64 (wrap64 (a0_3 + 1))] (by rfl) rfl rfl al_ ?_
 with_reducible refine (spec_l2Mask.calls t151 t152 t153 (wrap64 (a0_3 + 1)) t155 t156 t157 _ A3.out).mono ?_
 rintro e w25 ⟨rfl, hb⟩
 refine ⟨_, rfl, ?_⟩
 have n0_ := Aside0.mk (blk_below (bk_ BK147.out) hb)
 have n1_ := Aside0.mk (blk_below (bk_ BK148.out) hb)
 have n2_ := Aside0.mk (blk_below (bk_ BK149.out) hb)
 have n3_ := Aside0.mk (blk_below (bk_ BK150.out) hb)
 have n4_ := Aside0.mk (blk_below (bk_ BK154.out) hb)
 have n5_ := Aside0.mk (below_step (by repeat (first | (with_reducible first | exact HB.out | apply below_alloc | apply pw_below_drewN | apply below_drew1 | refine below_set ?_ GE147.out | refine below_set ?_ GE148.out | refine below_set ?_ GE149.out | refine below_set ?_ GE150.out | refine below_set ?_ GE154.out) | exact HB.out)) hb)
 clear BK147
 clear BK148
 clear BK149
 clear BK150
 clear BK154
 clear HB
 have BK147 := n0_
 have BK148 := n1_
 have BK149 := n2_
 have BK150 := n3_
 have BK154 := n4_
 have HB := n5_
 clear n0_ n1_ n2_ n3_ n4_ n5_
 (try clear hb)
 (try clear hb2)
 (try clear hk)
 (try clear hi)
 refine hK.out _ _ ⟨(blk_cell BK150.out 0).trans rfl, (blk_cell BK150.out 1).trans rfl, (blk_cell BK150.out 2).trans rfl, (blk_cell BK150.out 3).trans rfl, (blk_cell BK154.out 0).trans rfl, (blk_cell BK154.out 1).trans rfl, (blk_cell BK154.out 2).trans rfl, (blk_cell BK147.out 0).trans rfl, (blk_cell BK147.out 1).trans rfl, (blk_cell BK147.out 2).trans rfl, (blk_cell BK147.out 3).trans rfl⟩ (fun hHeld => ?_)
 clear hK K
 refine norm_ (a' := ?_) ?_ ?_
 rotate_left
 ·show Act.put _ (some 19) _ = _
  simp only [put, setIfInBounds_toArray, set_cons_zero, set_cons_succ, i64_w, i32_w]
  rfl
 refine pure_ (i := 9) (N := some 23) (v := ?_) (a' := ?_) #[true, true, true, true, true, true, true, true, true, true, false, false] rfl rfl (any_of HT_.out (by kernel_rfl)) (fun _ _ _ h => h) (Or.inl ⟨by rfl, ?_⟩) ?_ ?_
 rotate_left
 ·intro w'
  go_simp
  with_reducible rfl
 rotate_left
 ·simp only [put, setIfInBounds_toArray, set_cons_zero, set_cons_succ, i64_w, i32_w]
  rfl
 refine one_ (i := 10) (N := none) #[true, true, true, true, true, true, true, true, true, true, true, false] rfl rfl (one_of HT_.out (by kernel_rfl)) (by decide) (fun K hK => ?_)
 have hs26 : w25.cell? ⟨gb148, 0, none⟩ = some (.bool false) := (blk_cell BK148.out 0).trans rfl
 have hfs26 := blk_frozen BK148.out 0
 have hns26_0 := NB147_148.out
 have hns26_2 := NB149_148.out
 have hns26_3 := NB150_148.out
 have hns26_4 := NB154_148.out
 have hms26_0 := NB148_147.out
 have hms26_2 := NB148_149.out
 have hms26_3 := NB148_150.out
 have hms26_4 := NB148_154.out
 have hs27 : w25.cell? ⟨gb148, 1, none⟩ = some (.int .i64 0) := (blk_cell BK148.out 1).trans rfl
 have hfs27 := blk_frozen BK148.out 1
 have hns27_0 := NB147_148.out
 have hns27_2 := NB149_148.out
 have hns27_3 := NB150_148.out
 have hns27_4 := NB154_148.out
 have hms27_0 := NB148_147.out
 have hms27_2 := NB148_149.out
 have hms27_3 := NB148_150.out
 have hms27_4 := NB148_154.out
 have hs28 : w25.cell? ⟨gb148, 2, none⟩ = some (.int .i64 0) := (blk_cell BK148.out 2).trans rfl
 have hfs28 := blk_frozen BK148.out 2
 have hns28_0 := NB147_148.out
 have hns28_2 := NB149_148.out
 have hns28_3 := NB150_148.out
 have hns28_4 := NB154_148.out
 have hms28_0 := NB148_147.out
 have hms28_2 := NB148_149.out
 have hms28_3 := NB148_150.out
 have hms28_4 := NB148_154.out
 have hs29 : w25.cell? ⟨gb148, 3, none⟩ = some (.int .i64 0) := (blk_cell BK148.out 3).trans rfl
 have hfs29 := blk_frozen BK148.out 3
 have hns29_0 := NB147_148.out
 have hns29_2 := NB149_148.out
 have hns29_3 := NB150_148.out
 have hns29_4 := NB154_148.out
 have hms29_0 := NB148_147.out
 have hms29_2 := NB148_149.out
 have hms29_3 := NB148_150.out
 have hms29_4 := NB148_154.out
 refine skip_ (w1 := ?_) (by rfl) rfl ?_ ?_
 rotate_left
 ·go_simp
  rfl
 refine hK.out _ _ ⟨((cell_far (p := ⟨gb148, _, none⟩) NB150_148.out _).trans (((cell_far (p := ⟨gb148, _, none⟩) NB150_148.out _).trans (((cell_far (p := ⟨gb148, _, none⟩) NB150_148.out _).trans (((cell_far (p := ⟨gb148, _, none⟩) NB150_148.out _).trans (hHeld.1)))))))), ((cell_far (p := ⟨gb148, _, none⟩) NB150_148.out _).trans (((cell_far (p := ⟨gb148, _, none⟩) NB150_148.out _).trans (((cell_far (p := ⟨gb148, _, none⟩) NB150_148.out _).trans (((cell_far (p := ⟨gb148, _, none⟩) NB150_148.out _).trans (hHeld.2.1)))))))), ((cell_far (p := ⟨gb148, _, none⟩) NB150_148.out _).trans (((cell_far (p := ⟨gb148, _, none⟩) NB150_148.out _).trans (((cell_far (p := ⟨gb148, _, none⟩) NB150_148.out _).trans (((cell_far (p := ⟨gb148, _, none⟩) NB150_148.out _).trans (hHeld.2.2.1)))))))), ((cell_far (p := ⟨gb148, _, none⟩) NB150_148.out _).trans (((cell_far (p := ⟨gb148, _, none⟩) NB150_148.out _).trans (((cell_far (p := ⟨gb148, _, none⟩) NB150_148.out _).trans (((cell_far (p := ⟨gb148, _, none⟩) NB150_148.out _).trans (hHeld.2.2.2.1)))))))), ((cell_far (p := ⟨gb148, _, none⟩) NB154_148.out _).trans (((cell_far (p := ⟨gb148, _, none⟩) NB154_148.out _).trans (((cell_far (p := ⟨gb148, _, none⟩) NB154_148.out _).trans (((cell_far (p := ⟨gb148, _, none⟩) NB154_148.out _).trans (hHeld.2.2.2.2.1)))))))), ((cell_far (p := ⟨gb148, _, none⟩) NB154_148.out _).trans (((cell_far (p := ⟨gb148, _, none⟩) NB154_148.out _).trans (((cell_far (p := ⟨gb148, _, none⟩) NB154_148.out _).trans (((cell_far (p := ⟨gb148, _, none⟩) NB154_148.out _).trans (hHeld.2.2.2.2.2.1)))))))), ((cell_far (p := ⟨gb148, _, none⟩) NB154_148.out _).trans (((cell_far (p := ⟨gb148, _, none⟩) NB154_148.out _).trans (((cell_far (p := ⟨gb148, _, none⟩) NB154_148.out _).trans (((cell_far (p := ⟨gb148, _, none⟩) NB154_148.out _).trans (hHeld.2.2.2.2.2.2.1)))))))), ((cell_far (p := ⟨gb148, _, none⟩) NB147_148.out _).trans (((cell_far (p := ⟨gb148, _, none⟩) NB147_148.out _).trans (((cell_far (p := ⟨gb148, _, none⟩) NB147_148.out _).trans (((cell_far (p := ⟨gb148, _, none⟩) NB147_148.out _).trans (hHeld.2.2.2.2.2.2.2.1)))))))), ((cell_far (p := ⟨gb148, _, none⟩) NB147_148.out _).trans (((cell_far (p := ⟨gb148, _, none⟩) NB147_148.out _).trans (((cell_far (p := ⟨gb148, _, none⟩) NB147_148.out _).trans (((cell_far (p := ⟨gb148, _, none⟩) NB147_148.out _).trans (hHeld.2.2.2.2.2.2.2.2.1)))))))), ((cell_far (p := ⟨gb148, _, none⟩) NB147_148.out _).trans (((cell_far (p := ⟨gb148, _, none⟩) NB147_148.out _).trans (((cell_far (p := ⟨gb148, _, none⟩) NB147_148.out _).trans (((cell_far (p := ⟨gb148, _, none⟩) NB147_148.out _).trans (hHeld.2.2.2.2.2.2.2.2.2.1)))))))), ((cell_far (p := ⟨gb148, _, none⟩) NB147_148.out _).trans (((cell_far (p := ⟨gb148, _, none⟩) NB147_148.out _).trans (((cell_far (p := ⟨gb148, _, none⟩) NB147_148.out _).trans (((cell_far (p := ⟨gb148, _, none⟩) NB147_148.out _).trans (hHeld.2.2.2.2.2.2.2.2.2.2))))))))⟩ (fun hHeld => ?_)
 clear hK K
 refine one_ (i := 11) (N := none) #[true, true, true, true, true, true, true, true, true, true, true, true] rfl rfl (one_of HT_.out (by kernel_rfl)) (by decide) (fun K hK => ?_)
 have hs30 : w25.cell? ⟨gb149, 0, none⟩ = some (.bool false) := (blk_cell BK149.out 0).trans rfl
 have hfs30 := blk_frozen BK149.out 0
 have hns30_0 := NB147_149.out
 have hns30_1 := NB148_149.out
 have hns30_3 := NB150_149.out
 have hns30_4 := NB154_149.out
 have hms30_0 := NB149_147.out
 have hms30_1 := NB149_148.out
 have hms30_3 := NB149_150.out
 have hms30_4 := NB149_154.out
 have hs31 : w25.cell? ⟨gb149, 1, none⟩ = some (.int .i64 0) := (blk_cell BK149.out 1).trans rfl
 have hfs31 := blk_frozen BK149.out 1
 have hns31_0 := NB147_149.out
 have hns31_1 := NB148_149.out
 have hns31_3 := NB150_149.out
 have hns31_4 := NB154_149.out
 have hms31_0 := NB149_147.out
 have hms31_1 := NB149_148.out
 have hms31_3 := NB149_150.out
 have hms31_4 := NB149_154.out
 have hs32 : w25.cell? ⟨gb149, 2, none⟩ = some (.int .i64 0) := (blk_cell BK149.out 2).trans rfl
 have hfs32 := blk_frozen BK149.out 2
 have hns32_0 := NB147_149.out
 have hns32_1 := NB148_149.out
 have hns32_3 := NB150_149.out
 have hns32_4 := NB154_149.out
 have hms32_0 := NB149_147.out
 have hms32_1 := NB149_148.out
 have hms32_3 := NB149_150.out
 have hms32_4 := NB149_154.out
 have hs33 : w25.cell? ⟨gb149, 3, none⟩ = some (.int .i64 0) := (blk_cell BK149.out 3).trans rfl
 have hfs33 := blk_frozen BK149.out 3
 have hns33_0 := NB147_149.out
 have hns33_1 := NB148_149.out
 have hns33_3 := NB150_149.out
 have hns33_4 := NB154_149.out
 have hms33_0 := NB149_147.out
 have hms33_1 := NB149_148.out
 have hms33_3 := NB149_150.out
 have hms33_4 := NB149_154.out
 refine skip_ (w1 := ?_) (by rfl) rfl ?_ ?_
 rotate_left
 ·go_simp
  rfl
 refine hK.out _ _ ⟨((cell_far (p := ⟨gb149, _, none⟩) NB150_149.out _).trans (((cell_far (p := ⟨gb149, _, none⟩) NB150_149.out _).trans (((cell_far (p := ⟨gb149, _, none⟩) NB150_149.out _).trans (((cell_far (p := ⟨gb149, _, none⟩) NB150_149.out _).trans (hHeld.1)))))))), ((cell_far (p := ⟨gb149, _, none⟩) NB150_149.out _).trans (((cell_far (p := ⟨gb149, _, none⟩) NB150_149.out _).trans (((cell_far (p := ⟨gb149, _, none⟩) NB150_149.out _).trans (((cell_far (p := ⟨gb149, _, none⟩) NB150_149.out _).trans (hHeld.2.1)))))))), ((cell_far (p := ⟨gb149, _, none⟩) NB150_149.out _).trans (((cell_far (p := ⟨gb149, _, none⟩) NB150_149.out _).trans (((cell_far (p := ⟨gb149, _, none⟩) NB150_149.out _).trans (((cell_far (p := ⟨gb149, _, none⟩) NB150_149.out _).trans (hHeld.2.2.1)))))))), ((cell_far (p := ⟨gb149, _, none⟩) NB150_149.out _).trans (((cell_far (p := ⟨gb149, _, none⟩) NB150_149.out _).trans (((cell_far (p := ⟨gb149, _, none⟩) NB150_149.out _).trans (((cell_far (p := ⟨gb149, _, none⟩) NB150_149.out _).trans (hHeld.2.2.2.1)))))))), ((cell_far (p := ⟨gb149, _, none⟩) NB154_149.out _).trans (((cell_far (p := ⟨gb149, _, none⟩) NB154_149.out _).trans (((cell_far (p := ⟨gb149, _, none⟩) NB154_149.out _).trans (((cell_far (p := ⟨gb149, _, none⟩) NB154_149.out _).trans (hHeld.2.2.2.2.1)))))))), ((cell_far (p := ⟨gb149, _, none⟩) NB154_149.out _).trans (((cell_far (p := ⟨gb149, _, none⟩) NB154_149.out _).trans (((cell_far (p := ⟨gb149, _, none⟩) NB154_149.out _).trans (((cell_far (p := ⟨gb149, _, none⟩) NB154_149.out _).trans (hHeld.2.2.2.2.2.1)))))))), ((cell_far (p := ⟨gb149, _, none⟩) NB154_149.out _).trans (((cell_far (p := ⟨gb149, _, none⟩) NB154_149.out _).trans (((cell_far (p := ⟨gb149, _, none⟩) NB154_149.out _).trans (((cell_far (p := ⟨gb149, _, none⟩) NB154_149.out _).trans (hHeld.2.2.2.2.2.2.1)))))))), ((cell_far (p := ⟨gb149, _, none⟩) NB147_149.out _).trans (((cell_far (p := ⟨gb149, _, none⟩) NB147_149.out _).trans (((cell_far (p := ⟨gb149, _, none⟩) NB147_149.out _).trans (((cell_far (p := ⟨gb149, _, none⟩) NB147_149.out _).trans (hHeld.2.2.2.2.2.2.2.1)))))))), ((cell_far (p := ⟨gb149, _, none⟩) NB147_149.out _).trans (((cell_far (p := ⟨gb149, _, none⟩) NB147_149.out _).trans (((cell_far (p := ⟨gb149, _, none⟩) NB147_149.out _).trans (((cell_far (p := ⟨gb149, _, none⟩) NB147_149.out _).trans (hHeld.2.2.2.2.2.2.2.2.1)))))))), ((cell_far (p := ⟨gb149, _, none⟩) NB147_149.out _).trans (((cell_far (p := ⟨gb149, _, none⟩) NB147_149.out _).trans (((cell_far (p := ⟨gb149, _, none⟩) NB147_149.out _).trans (((cell_far (p := ⟨gb149, _, none⟩) NB147_149.out _).trans (hHeld.2.2.2.2.2.2.2.2.2.1)))))))), ((cell_far (p := ⟨gb149, _, none⟩) NB147_149.out _).trans (((cell_far (p := ⟨gb149, _, none⟩) NB147_149.out _).trans (((cell_far (p := ⟨gb149, _, none⟩) NB147_149.out _).trans (((cell_far (p := ⟨gb149, _, none⟩) NB147_149.out _).trans (hHeld.2.2.2.2.2.2.2.2.2.2))))))))⟩ (fun hHeld => ?_)
 clear hK K
 refine done_ (done_of HT_.out (by kernel_rfl)) ?_
 try go_wp2
 refine bodyPost_ret (results_cc rfl _ _ gb148 gb149 32 32 #[.bool a0_0, .int .i64 a0_1, .int .i64 a0_2, .int .i64 (wrap64 (a0_3 + 1))] #[.bool t155, .int .i64 t156, .int .i64 t157, .int .i64 (wrap64 (a0_3 + 1))] (0, 0) (0, 0) _ _ rfl (by refine bk_ ?_; refine blk_far ?_ NB148_149.out _; refine bk_ ?_; refine blk_far ?_ NB148_149.out _; refine bk_ ?_; refine blk_far ?_ NB148_149.out _; refine bk_ ?_; refine blk_far ?_ NB148_149.out _; refine bk_ ?_; refine blk_put (cs := #[.bool a0_0, .int .i64 a0_1, .int .i64 a0_2, .int .i64 0]) ?_ 3 _ rfl; refine bk_ ?_; refine blk_put (cs := #[.bool a0_0, .int .i64 a0_1, .int .i64 0, .int .i64 0]) ?_ 2 _ rfl; refine bk_ ?_; refine blk_put (cs := #[.bool a0_0, .int .i64 0, .int .i64 0, .int .i64 0]) ?_ 1 _ rfl; refine bk_ ?_; refine blk_put (cs := #[.bool false, .int .i64 0, .int .i64 0, .int .i64 0]) ?_ 0 _ rfl; refine bk_ ?_; exact BK148.out) Try.underlying32 rfl (by kernel_rfl) rfl (by refine bk_ ?_; refine blk_put (cs := #[.bool t155, .int .i64 t156, .int .i64 t157, .int .i64 0]) ?_ 3 _ rfl; refine bk_ ?_; refine blk_put (cs := #[.bool t155, .int .i64 t156, .int .i64 0, .int .i64 0]) ?_ 2 _ rfl; refine bk_ ?_; refine blk_put (cs := #[.bool t155, .int .i64 0, .int .i64 0, .int .i64 0]) ?_ 1 _ rfl; refine bk_ ?_; refine blk_put (cs := #[.bool false, .int .i64 0, .int .i64 0, .int .i64 0]) ?_ 0 _ rfl; refine bk_ ?_; refine blk_far ?_ NB149_148.out _; refine bk_ ?_; refine blk_far ?_ NB149_148.out _; refine bk_ ?_; refine blk_far ?_ NB149_148.out _; refine bk_ ?_; refine blk_far ?_ NB149_148.out _; refine bk_ ?_; exact BK149.out) Try.underlying32 rfl (by kernel_rfl)) rfl ?_
 exact ⟨pe_, by repeat (first | (with_reducible first | exact HB.out | apply below_alloc | apply pw_below_drewN | apply below_drew1 | refine below_set ?_ GE147.out | refine below_set ?_ GE148.out | refine below_set ?_ GE149.out | refine below_set ?_ GE150.out | refine below_set ?_ GE154.out) | exact HB.out)⟩

end Go.Proofs.Ytigmadccchofiaa.QFnExactLargest
