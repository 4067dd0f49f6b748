-- Written by a program of this session (wip/myprint.py); Lean checks it.
import Derived.Test.YtigmadccchofiaaQFnExactFirstFreex0
import Derived.Test.YtigmadccchofiaaQFnExactFirstFreex2
namespace Go.Proofs.Ytigmadccchofiaa.QFnExactFirstFree
open Go.RowKit Go.Proofs.YtigmadccchofiaaW.PrintWords Go.Proofs.YtigmadccchofiaaW.PrintLast Go.Proofs.YtigmadccchofiaaW.PrintMore
open Act (put)
open List (setIfInBounds_toArray set_cons_zero set_cons_succ)
attribute [local go_sem] max2_int min2_int max_two min_two max_three min_three max_four min_four   -- for this text's walks alone
set_option linter.unusedVariables false
set_option linter.unusedSimpArgs false

attribute [local go_sem] isSome_setCell
/-! ### spec_l2Last: function 119 -/
def spec_l2Last.f (a0_0 : Bool) (a0_1 : Int) (a0_2 : Int) (a0_3 : Int) : Option (Bool × Int × Int) := if a0_0 = true then ((spec_l2High.f a0_3).bind fun t139 => ((spec_l2High.f (wrap64 (a0_3 - 64))).bind fun t140 => (some (true, wrap64 (Go.bits .or .u64 (IntKind.u64.wrap (a0_1)) (Go.bits BinOp.xor IntKind.u64 (if IntKind.u64.signed = true then -1 else IntKind.u64.max) t139)), wrap64 (Go.bits .or .u64 (IntKind.u64.wrap (a0_2)) (Go.bits BinOp.xor IntKind.u64 (if IntKind.u64.signed = true then -1 else IntKind.u64.max) t140)))))) else ((spec_l2High.f a0_3).bind fun t141 => (some (false, 0, Go.bits .or .i64 a0_2 (wrap64 ((Go.bits BinOp.xor IntKind.u64 (if IntKind.u64.signed = true then -1 else IntKind.u64.max) t141) / 4294967296)))))
def spec_l2Last.T2 : Bool × List (List Nat × List Nat) := (true, [([], []), ([0], [0]), ([1], [1]), ([], []), ([3], [3]), ([4], [4]), ([5], [5]), ([6], [6]), ([7], [7]), ([2, 8], [2, 8]), ([9], [9]), ([10, 5, 0, 1, 2, 3, 4, 5, 6, 7, 8, 9, 10], [10])])
def spec_l2Last.B2 : List Nat := [0, 1, 3, 0, 8, 24, 56, 120, 248, 511, 1023, 2047]
theorem spec_l2Last.tab2 : rtab .any (opsOf Try.f119 2) = spec_l2Last.T2 := by kernel_rfl
theorem spec_l2Last.bits2 : waitsOk spec_l2Last.T2.2 spec_l2Last.B2 = true := by kernel_rfl
def spec_l2Last.T3 : Bool × List (List Nat × List Nat) := (true, [([], []), ([0], [0]), ([1], [1]), ([2], [2]), ([], []), ([4], [4]), ([5], [5]), ([6], [6]), ([3, 7], [3, 7]), ([8], [8]), ([], []), ([10], [10]), ([11], [11]), ([12], [12]), ([], []), ([14], [14]), ([15], [15]), ([16, 6], [16]), ([17], [17]), ([13, 18], [13, 18]), ([19], [19]), ([9, 20], [9, 20]), ([21, 17, 0, 1, 2, 3, 4, 5, 6, 7, 8, 9, 10, 11, 12, 13, 14, 15, 16, 17, 18, 19, 20, 21], [21])])
def spec_l2Last.B3 : List Nat := [0, 1, 3, 7, 0, 16, 48, 112, 255, 511, 0, 1024, 3072, 7168, 0, 16384, 49152, 114800, 245872, 523376, 1047664, 2097151, 4194303]
theorem spec_l2Last.tab3 : rtab .any (opsOf Try.f119 3) = spec_l2Last.T3 := by kernel_rfl
theorem spec_l2Last.bits3 : waitsOk spec_l2Last.T3.2 spec_l2Last.B3 = true := by kernel_rfl
set_option maxHeartbeats 8000000 in
set_option maxRecDepth 100000 in
theorem spec_l2Last.calls (a0_0 : Bool) (a0_1 : Int) (a0_2 : Int) (a0_3 : Int) (r1 : Bool) (r2 : Int) (r3 : Int) (w : World) (h : spec_l2Last.f a0_0 a0_1 a0_2 a0_3 = some (r1, r2, r3)) :
  Calls Try.prog 119 #[.agg #[.bool a0_0, .int .i64 a0_1, .int .i64 a0_2, .int .i64 a0_3]] w fun e w' => e = .returned (.agg #[.bool r1, .int .i64 r2, .int .i64 r3]) ∧ Below w.heap.size w w' := by
 have hu32 := Try.underlying32
 have hu26 := Try.underlying26
 have HB := Aside0.mk (Below.refl w.heap.size w)
 have H : (if a0_0 = true then ((spec_l2High.f a0_3).bind fun t139 => ((spec_l2High.f (wrap64 (a0_3 - 64))).bind fun t140 => (some (true, wrap64 (Go.bits .or .u64 (IntKind.u64.wrap (a0_1)) (Go.bits BinOp.xor IntKind.u64 (if IntKind.u64.signed = true then -1 else IntKind.u64.max) t139)), wrap64 (Go.bits .or .u64 (IntKind.u64.wrap (a0_2)) (Go.bits BinOp.xor IntKind.u64 (if IntKind.u64.signed = true then -1 else IntKind.u64.max) t140)))))) else ((spec_l2High.f a0_3).bind fun t141 => (some (false, 0, Go.bits .or .i64 a0_2 (wrap64 ((Go.bits BinOp.xor IntKind.u64 (if IntKind.u64.signed = true then -1 else IntKind.u64.max) t141) / 4294967296)))))) = some (r1, r2, r3) := h
 clear h
 by_cases c2 : a0_0 = true
 ·subst c2
  have H1 : ((spec_l2High.f a0_3).bind fun t139 => ((spec_l2High.f (wrap64 (a0_3 - 64))).bind fun t140 => (some (true, wrap64 (Go.bits .or .u64 (IntKind.u64.wrap (a0_1)) (Go.bits BinOp.xor IntKind.u64 (if IntKind.u64.signed = true then -1 else IntKind.u64.max) t139)), wrap64 (Go.bits .or .u64 (IntKind.u64.wrap (a0_2)) (Go.bits BinOp.xor IntKind.u64 (if IntKind.u64.signed = true then -1 else IntKind.u64.max) t140)))))) = some (r1, r2, r3) := by rw [if_pos rfl] at H; exact H
  clear H
  have H := H1
  clear H1
  replace H := Option.bind_eq_some_iff.mp H
  obtain ⟨t139, A30, H⟩ := H
  replace H : ((spec_l2High.f (wrap64 (a0_3 - 64))).bind fun t140 => (some (true, wrap64 (Go.bits .or .u64 (IntKind.u64.wrap (a0_1)) (Go.bits BinOp.xor IntKind.u64 (if IntKind.u64.signed = true then -1 else IntKind.u64.max) t139)), wrap64 (Go.bits .or .u64 (IntKind.u64.wrap (a0_2)) (Go.bits BinOp.xor IntKind.u64 (if IntKind.u64.signed = true then -1 else IntKind.u64.max) t140))))) = some (r1, r2, r3) := H
  have A3 := Aside0.mk A30
  clear A30
  replace H := Option.bind_eq_some_iff.mp H
  obtain ⟨t140, A40, H⟩ := H
  replace H : (some (true, wrap64 (Go.bits .or .u64 (IntKind.u64.wrap (a0_1)) (Go.bits BinOp.xor IntKind.u64 (if IntKind.u64.signed = true then -1 else IntKind.u64.max) t139)), wrap64 (Go.bits .or .u64 (IntKind.u64.wrap (a0_2)) (Go.bits BinOp.xor IntKind.u64 (if IntKind.u64.signed = true then -1 else IntKind.u64.max) t140)))) = some (r1, r2, r3) := H
  have A4 := Aside0.mk A40
  clear A40
  simp only [Option.some.injEq, Prod.mk.injEq] at H
  obtain ⟨rfl, rfl, rfl⟩ := H
  go_enter Try.func119, Try.ntmps119
  try go_wp2_with (first | ((with_reducible refine gate_dst (N := 1) rfl ?_); refine box_event ?hg (N := 1) ?hd (cs := #[.bool true, .int .i64 a0_1, .int .i64 a0_2, .int .i64 a0_3]) (t := 32) ?hr ?_; (case hd => rfl); (case hg => rfl); (case hr => first | (go_simp; done) | (go_simp; rfl)); intro gb137 hg w5 hbox hb; have n0_ := Aside0.mk (below_step (by repeat (first | (with_reducible first | exact HB.out | apply below_alloc | apply pw_below_drewN | apply below_drew1) | exact HB.out)) hb); have n1_ := Aside0.mk (hbox); have n2_ := Aside0.mk ((by rw [hg]; exact (below_size (by repeat (first | (with_reducible first | exact HB.out | apply below_alloc | apply pw_below_drewN | apply below_drew1) | exact HB.out))) : w.heap.size ≤ gb137)); have n3_ := Aside0.mk ((by rw [hg]; exact (below_size (by repeat (first | (with_reducible first | exact HB.out | apply below_alloc | apply pw_below_drewN | apply below_drew1) | exact HB.out))) : w.heap.size ≤ gb137)); clear HB; have HB := n0_; have BK137 := n1_; have GW137 := n2_; have GE137 := n3_; clear n0_ n1_ n2_ n3_; clear hb hbox hg) | ((with_reducible refine gate_dst (N := 2) rfl ?_); refine box_event ?hg (N := 2) ?hd (cs := #[.bool false, .int .i64 0, .int .i64 0]) (t := 26) ?hr ?_; (case hd => rfl); (case hg => rfl); (case hr => first | (go_simp; done) | (go_simp; rfl)); intro gb138 hg w6 hbox hb; have n0_ := Aside0.mk (blk_below (g := gb137) (o := .cells #[.bool true, .int .i64 a0_1, .int .i64 a0_2, .int .i64 a0_3] 32 (0, 0)) (by (with_reducible repeat (first | apply blk_drewN | apply blk_drew | apply blk_alloc)); exact BK137.out) hb); have n1_ := Aside0.mk (below_step (by repeat (first | (with_reducible first | exact HB.out | apply below_alloc | apply pw_below_drewN | apply below_drew1 | refine below_set ?_ GE137.out) | exact HB.out)) hb); have n2_ := Aside0.mk (hbox); have n3_ := Aside0.mk ((by rw [hg]; exact (below_size (by repeat (first | (with_reducible first | exact HB.out | apply below_alloc | apply pw_below_drewN | apply below_drew1 | refine below_set ?_ GE137.out) | exact HB.out))) : w.heap.size ≤ gb138)); have n4_ := Aside0.mk ((by rw [hg]; exact (below_size (by repeat (first | (with_reducible first | exact HB.out | apply below_alloc | apply pw_below_drewN | apply below_drew1 | refine below_set ?_ GE137.out) | exact HB.out))) : w.heap.size ≤ gb138)); have n5_ := Aside0.mk ((by rw [hg]; exact Nat.ne_of_lt (blk_lt (g := gb137) (o := .cells #[.bool true, .int .i64 a0_1, .int .i64 a0_2, .int .i64 a0_3] 32 (0, 0)) (by (with_reducible repeat (first | apply blk_drewN | apply blk_drew | apply blk_alloc)); exact BK137.out)) : gb137 ≠ gb138)); have n6_ := Aside0.mk ((by rw [hg]; exact Nat.ne_of_gt (blk_lt (g := gb137) (o := .cells #[.bool true, .int .i64 a0_1, .int .i64 a0_2, .int .i64 a0_3] 32 (0, 0)) (by (with_reducible repeat (first | apply blk_drewN | apply blk_drew | apply blk_alloc)); exact BK137.out)) : gb138 ≠ gb137)); clear BK137; clear HB; have BK137 := n0_; have HB := n1_; have BK138 := n2_; have GW138 := n3_; have GE138 := n4_; have NB137_138 := n5_; have NB138_137 := n6_; clear n0_ n1_ n2_ n3_ n4_ n5_ n6_; clear hb hbox hg; have hnb7 := NB137_138.out; have hnc7 := NB138_137.out; have hcz8_0 : w6.cell? ⟨gb137, 0, none⟩ = some (.bool true) := (blk_cell BK137.out 0).trans rfl; have hcz8_1 : w6.cell? ⟨gb137, 1, none⟩ = some (.int .i64 a0_1) := (blk_cell BK137.out 1).trans rfl; have hcz8_2 : w6.cell? ⟨gb137, 2, none⟩ = some (.int .i64 a0_2) := (blk_cell BK137.out 2).trans rfl; have hcz8_3 : w6.cell? ⟨gb137, 3, none⟩ = some (.int .i64 a0_3) := (blk_cell BK137.out 3).trans rfl; have hfz8_0 := blk_frozen BK137.out 0; have hfz8_1 := blk_frozen BK137.out 1; have hfz8_2 := blk_frozen BK137.out 2; have hfz8_3 := blk_frozen BK137.out 3))
  have n0_ := Aside0.mk (blk_drew BK137.out)
  have n1_ := Aside0.mk (blk_drew BK138.out)
  have n2_ := Aside0.mk (below_drew1 HB.out)
  clear BK137
  clear BK138
  clear HB
  have BK137 := n0_
  have BK138 := n1_
  have HB := n2_
  clear n0_ n1_ n2_
  refine start_ (n := 23) (S := fun w' => w'.cell? ⟨gb137, 0, none⟩ = some (.bool true) ∧ w'.cell? ⟨gb137, 1, none⟩ = some (.int .i64 a0_1) ∧ w'.cell? ⟨gb137, 2, none⟩ = some (.int .i64 a0_2) ∧ w'.cell? ⟨gb137, 3, none⟩ = some (.int .i64 a0_3)) (ds := []) #[false, false, false, false, false, false, false, false, false, false, false, false, false, false, false, false, false, false, false, false, false, false, false] (by kernel_rfl) rfl rfl ⟨(blk_cell BK137.out 0).trans rfl, (blk_cell BK137.out 1).trans rfl, (blk_cell BK137.out 2).trans rfl, (blk_cell BK137.out 3).trans rfl⟩ (fun hHeld => ?_); refine with_tabW spec_l2Last.tab3 spec_l2Last.bits3 (fun HT_ HW_ => ?_)
  generalize w6.drew = w9 at BK137 BK138 HB hHeld ⊢
  refine pure_ (i := 0) (N := some 18) (v := ?_) (a' := ?_) #[true, false, false, false, false, false, false, false, false, false, false, false, false, false, false, false, false, false, false, false, false, false, false] rfl rfl (any_of HT_.out (by kernel_rfl)) (fun _ _ _ h => h) (Or.inl ⟨by rfl, ?_⟩) ?_ ?_
  rotate_left
  ·intro w'
   go_simp
   with_reducible rfl
  rotate_left
  ·simp only [put, setIfInBounds_toArray, set_cons_zero, set_cons_succ, i64_w, i32_w]
   rfl
  refine pure_ (i := 1) (N := some 19) (v := ?_) (a' := ?_) #[true, true, false, false, false, false, false, false, false, false, false, false, false, false, false, false, false, false, false, false, false, false, false] rfl rfl (any_of HT_.out (by kernel_rfl)) (fun _ _ _ h => h) (Or.inl ⟨by rfl, ?_⟩) ?_ ?_
  rotate_left
  ·intro w'
   go_simp
   with_reducible rfl
  rotate_left
  ·simp only [put, setIfInBounds_toArray, set_cons_zero, set_cons_succ, i64_w, i32_w]
   rfl
  refine pure_ (i := 4) (N := some 22) (v := ?_) (a' := ?_) #[true, true, false, false, true, false, false, false, false, false, false, false, false, false, false, false, false, false, false, false, false, false, false] rfl rfl (any_of HT_.out (by kernel_rfl)) (fun _ _ _ h => h) (Or.inl ⟨by rfl, ?_⟩) ?_ ?_
  rotate_left
  ·intro w'
   go_simp
   with_reducible rfl
  rotate_left
  ·simp only [put, setIfInBounds_toArray, set_cons_zero, set_cons_succ, i64_w, i32_w]
   rfl
  refine pure_ (i := 10) (N := some 28) (v := ?_) (a' := ?_) #[true, true, false, false, true, false, false, false, false, false, true, false, false, false, false, false, false, false, false, false, false, false, false] rfl rfl (any_of HT_.out (by kernel_rfl)) (fun _ _ _ h => h) (Or.inl ⟨by rfl, ?_⟩) ?_ ?_
  rotate_left
  ·intro w'
   go_simp
   with_reducible rfl
  rotate_left
  ·simp only [put, setIfInBounds_toArray, set_cons_zero, set_cons_succ, i64_w, i32_w]
   rfl
  refine pure_ (i := 11) (N := some 29) (v := ?_) (a' := ?_) #[true, true, false, false, true, false, false, false, false, false, true, true, false, false, false, false, false, false, false, false, false, false, false] rfl rfl (any_of HT_.out (by kernel_rfl)) (fun _ _ _ h => h) (Or.inl ⟨by rfl, ?_⟩) ?_ ?_
  rotate_left
  ·intro w'
   go_simp
   with_reducible rfl
  rotate_left
  ·simp only [put, setIfInBounds_toArray, set_cons_zero, set_cons_succ, i64_w, i32_w]
   rfl
  refine pure_ (i := 14) (N := some 32) (v := ?_) (a' := ?_) #[true, true, false, false, true, false, false, false, false, false, true, true, false, false, true, false, false, false, false, false, false, false, false] rfl rfl (any_of HT_.out (by kernel_rfl)) (fun _ _ _ h => h) (Or.inl ⟨by rfl, ?_⟩) ?_ ?_
  rotate_left
  ·intro w'
   go_simp
   with_reducible rfl
  rotate_left
  ·simp only [put, setIfInBounds_toArray, set_cons_zero, set_cons_succ, i64_w, i32_w]
   rfl
  refine take_ (i := 2) (N := some 20) (v := ?_) (a' := ?_) #[true, true, true, false, true, false, false, false, false, false, true, true, false, false, true, false, false, false, false, false, false, false, false] rfl rfl (take_ofW HT_.out HW_.out (by kernel_rfl)) (fun _ _ _ h => h) (Or.inl ⟨by rfl, ?_⟩) hHeld ?_ ?_
  rotate_left
  ·rintro w' ⟨s0, s1, s2, s3⟩
   go_simp
   with_reducible rfl
  rotate_left
  ·simp only [put, setIfInBounds_toArray, set_cons_zero, set_cons_succ, i64_w, i32_w]
   rfl
  refine pure_ (i := 3) (N := some 21) (v := ?_) (a' := ?_) #[true, true, true, true, true, false, false, false, false, false, true, true, false, false, true, false, false, false, false, false, false, false, false] rfl rfl (any_of HT_.out (by kernel_rfl)) (fun _ _ _ h => h) (Or.inl ⟨by rfl, ?_⟩) ?_ ?_
  rotate_left
  ·intro w'
   go_simp
   with_reducible rfl
  rotate_left
  ·simp only [put, setIfInBounds_toArray, set_cons_zero, set_cons_succ, i64_w, i32_w]
   rfl
  refine take_ (i := 5) (N := some 23) (v := ?_) (a' := ?_) #[true, true, true, true, true, true, false, false, false, false, true, true, false, false, true, false, false, false, false, false, false, false, false] rfl rfl (take_ofW HT_.out HW_.out (by kernel_rfl)) (fun _ _ _ h => h) (Or.inl ⟨by rfl, ?_⟩) hHeld ?_ ?_
  rotate_left
  ·rintro w' ⟨s0, s1, s2, s3⟩
   go_simp
   with_reducible rfl
  rotate_left
  ·simp only [put, setIfInBounds_toArray, set_cons_zero, set_cons_succ, i64_w, i32_w]
   rfl
  refine take_ (i := 12) (N := some 30) (v := ?_) (a' := ?_) #[true, true, true, true, true, true, false, false, false, false, true, true, true, false, true, false, false, false, false, false, false, false, false] rfl rfl (take_ofW HT_.out HW_.out (by kernel_rfl)) (fun _ _ _ h => h) (Or.inl ⟨by rfl, ?_⟩) hHeld ?_ ?_
  rotate_left
  ·rintro w' ⟨s0, s1, s2, s3⟩
   go_simp
   with_reducible rfl
  rotate_left
  ·simp only [put, setIfInBounds_toArray, set_cons_zero, set_cons_succ, i64_w, i32_w]
   rfl
  refine pure_ (i := 13) (N := some 31) (v := ?_) (a' := ?_) #[true, true, true, true, true, true, false, false, false, false, true, true, true, true, true, false, false, false, false, false, false, false, false] rfl rfl (any_of HT_.out (by kernel_rfl)) (fun _ _ _ h => h) (Or.inl ⟨by rfl, ?_⟩) ?_ ?_
  rotate_left
  ·intro w'
   go_simp
   with_reducible rfl
  rotate_left
  ·simp only [put, setIfInBounds_toArray, set_cons_zero, set_cons_succ, i64_w, i32_w]
   rfl
  refine take_ (i := 15) (N := some 33) (v := ?_) (a' := ?_) #[true, true, true, true, true, true, false, false, false, false, true, true, true, true, true, true, false, false, false, false, false, false, false] rfl rfl (take_ofW HT_.out HW_.out (by kernel_rfl)) (fun _ _ _ h => h) (Or.inl ⟨by rfl, ?_⟩) hHeld ?_ ?_
  rotate_left
  ·rintro w' ⟨s0, s1, s2, s3⟩
   go_simp
   with_reducible rfl
  rotate_left
  ·simp only [put, setIfInBounds_toArray, set_cons_zero, set_cons_succ, i64_w, i32_w]
   rfl
  refine pure_ (i := 16) (N := some 34) (v := ?_) (a' := ?_) #[true, true, true, true, true, true, false, false, false, false, true, true, true, true, true, true, true, false, false, false, false, false, false] rfl rfl (any_of HT_.out (by kernel_rfl)) (fun _ _ _ h => h) (Or.inl ⟨by rfl, ?_⟩) ?_ ?_
  rotate_left
  ·intro w'
   go_simp
   with_reducible rfl
  rotate_left
  ·simp only [put, setIfInBounds_toArray, set_cons_zero, set_cons_succ, i64_w, i32_w]
   rfl
  refine one_ (i := 6) (N := some 24) #[true, true, true, true, true, true, true, false, false, false, true, true, true, true, true, true, true, false, false, false, false, false, false] rfl rfl (one_of HT_.out (by kernel_rfl)) (by decide) (fun K hK => ?_)
  refine goes_ Try.func132 (by kernel_rfl) rfl #[.int .i64 a0_3] (by rfl) rfl rfl (by (try simp only [List.map_toArray, List.map_cons, List.map_nil]); first | done | rfl | (simp only [List.length_drop, List.length_take]; rfl)) ?_
  with_reducible refine (spec_l2High.calls a0_3 t139 _ A3.out).mono ?_
  rintro e w' ⟨rfl, ⟨nd, rfl⟩⟩
  refine ⟨_, rfl, ?_⟩
  refine hK.out _ _ ⟨(blk_cell BK137.out 0).trans rfl, (blk_cell BK137.out 1).trans rfl, (blk_cell BK137.out 2).trans rfl, (blk_cell BK137.out 3).trans rfl⟩ (fun hHeld => ?_)
  clear hK K
  refine norm_ (a' := ?_) ?_ ?_
  rotate_left
  ·show Act.put _ (some 24) _ = _
   simp only [put, setIfInBounds_toArray, set_cons_zero, set_cons_succ, i64_w, i32_w]
   rfl
  refine pure_ (i := 7) (N := some 25) (v := ?_) (a' := ?_) #[true, true, true, true, true, true, true, true, false, false, true, true, true, true, true, true, true, false, false, false, false, false, false] rfl rfl (any_of HT_.out (by kernel_rfl)) (fun _ _ _ h => h) (Or.inl ⟨by rfl, ?_⟩) ?_ ?_
  rotate_left
  ·intro w'
   go_simp
   with_reducible rfl
  rotate_left
  ·simp only [put, setIfInBounds_toArray, set_cons_zero, set_cons_succ, i64_w, i32_w]
   rfl
  refine pure_ (i := 8) (N := some 26) (v := ?_) (a' := ?_) #[true, true, true, true, true, true, true, true, true, false, true, true, true, true, true, true, true, false, false, false, false, false, false] rfl rfl (any_of HT_.out (by kernel_rfl)) (fun _ _ _ h => h) (Or.inl ⟨by rfl, ?_⟩) ?_ ?_
  rotate_left
  ·intro w'
   go_simp
   with_reducible rfl
  rotate_left
  ·simp only [put, setIfInBounds_toArray, set_cons_zero, set_cons_succ, i64_w, i32_w]
   rfl
  refine pure_ (i := 9) (N := some 27) (v := ?_) (a' := ?_) #[true, true, true, true, true, true, true, true, true, true, true, true, true, true, true, true, true, false, false, false, false, false, false] rfl rfl (any_of HT_.out (by kernel_rfl)) (fun _ _ _ h => h) (Or.inl ⟨by rfl, ?_⟩) ?_ ?_
  rotate_left
  ·intro w'
   go_simp
   with_reducible rfl
  rotate_left
  ·simp only [put, setIfInBounds_toArray, set_cons_zero, set_cons_succ, i64_w, i32_w]
   rfl
  refine one_ (i := 17) (N := some 35) #[true, true, true, true, true, true, true, true, true, true, true, true, true, true, true, true, true, true, false, false, false, false, false] rfl rfl (one_of HT_.out (by kernel_rfl)) (by decide) (fun K hK => ?_)
  refine goes_ Try.func132 (by kernel_rfl) rfl #[.int .i64 (wrap64 (a0_3 - 64))] (by rfl) rfl rfl (by (try simp only [List.map_toArray, List.map_cons, List.map_nil]); first | done | rfl | (simp only [List.length_drop, List.length_take]; rfl)) ?_
  with_reducible refine (spec_l2High.calls (wrap64 (a0_3 - 64)) t140 _ A4.out).mono ?_
  rintro e w' ⟨rfl, ⟨nd, rfl⟩⟩
  refine ⟨_, rfl, ?_⟩
  refine hK.out _ _ ⟨(blk_cell BK137.out 0).trans rfl, (blk_cell BK137.out 1).trans rfl, (blk_cell BK137.out 2).trans rfl, (blk_cell BK137.out 3).trans rfl⟩ (fun hHeld => ?_)
  clear hK K
  refine norm_ (a' := ?_) ?_ ?_
  rotate_left
  ·show Act.put _ (some 35) _ = _
   simp only [put, setIfInBounds_toArray, set_cons_zero, set_cons_succ, i64_w, i32_w]
   rfl
  refine pure_ (i := 18) (N := some 36) (v := ?_) (a' := ?_) #[true, true, true, true, true, true, true, true, true, true, true, true, true, true, true, true, true, true, true, false, false, false, false] rfl rfl (any_of HT_.out (by kernel_rfl)) (fun _ _ _ h => h) (Or.inl ⟨by rfl, ?_⟩) ?_ ?_
  rotate_left
  ·intro w'
   go_simp
   with_reducible rfl
  rotate_left
  ·simp only [put, setIfInBounds_toArray, set_cons_zero, set_cons_succ, i64_w, i32_w]
   rfl
  refine pure_ (i := 19) (N := some 37) (v := ?_) (a' := ?_) #[true, true, true, true, true, true, true, true, true, true, true, true, true, true, true, true, true, true, true, true, false, false, false] rfl rfl (any_of HT_.out (by kernel_rfl)) (fun _ _ _ h => h) (Or.inl ⟨by rfl, ?_⟩) ?_ ?_
  rotate_left
  ·intro w'
   go_simp
   with_reducible rfl
  rotate_left
  ·simp only [put, setIfInBounds_toArray, set_cons_zero, set_cons_succ, i64_w, i32_w]
   rfl
  refine pure_ (i := 20) (N := some 38) (v := ?_) (a' := ?_) #[true, true, true, true, true, true, true, true, true, true, true, true, true, true, true, true, true, true, true, true, true, false, false] rfl rfl (any_of HT_.out (by kernel_rfl)) (fun _ _ _ h => h) (Or.inl ⟨by rfl, ?_⟩) ?_ ?_
  rotate_left
  ·intro w'
   go_simp
   with_reducible rfl
  rotate_left
  ·simp only [put, setIfInBounds_toArray, set_cons_zero, set_cons_succ, i64_w, i32_w]
   rfl
  refine pure_ (i := 21) (N := some 39) (v := ?_) (a' := ?_) #[true, true, true, true, true, true, true, true, true, true, true, true, true, true, true, true, true, true, true, true, true, true, false] rfl rfl (any_of HT_.out (by kernel_rfl)) (fun _ _ _ h => h) (Or.inl ⟨by rfl, ?_⟩) ?_ ?_
  rotate_left
  ·intro w'
   go_simp
   with_reducible rfl
  rotate_left
  ·simp only [put, setIfInBounds_toArray, set_cons_zero, set_cons_succ, i64_w, i32_w]
   rfl
  refine one_ (i := 22) (N := none) #[true, true, true, true, true, true, true, true, true, true, true, true, true, true, true, true, true, true, true, true, true, true, true] rfl rfl (one_of HT_.out (by kernel_rfl)) (by decide) (fun K hK => ?_)
  have hs10 : w9.cell? ⟨gb138, 0, none⟩ = some (.bool false) := (blk_cell BK138.out 0).trans rfl
  have hfs10 := blk_frozen BK138.out 0
  have hns10_0 := NB137_138.out
  have hms10_0 := NB138_137.out
  have hs11 : w9.cell? ⟨gb138, 1, none⟩ = some (.int .i64 0) := (blk_cell BK138.out 1).trans rfl
  have hfs11 := blk_frozen BK138.out 1
  have hns11_0 := NB137_138.out
  have hms11_0 := NB138_137.out
  have hs12 : w9.cell? ⟨gb138, 2, none⟩ = some (.int .i64 0) := (blk_cell BK138.out 2).trans rfl
  have hfs12 := blk_frozen BK138.out 2
  have hns12_0 := NB137_138.out
  have hms12_0 := NB138_137.out
  refine skip_ (w1 := ?_) (by rfl) rfl ?_ ?_
  rotate_left
  ·go_simp
   rfl
  refine hK.out _ _ ⟨((cell_far (p := ⟨gb138, _, none⟩) NB137_138.out _).trans (((cell_far (p := ⟨gb138, _, none⟩) NB137_138.out _).trans (((cell_far (p := ⟨gb138, _, none⟩) NB137_138.out _).trans (hHeld.1)))))), ((cell_far (p := ⟨gb138, _, none⟩) NB137_138.out _).trans (((cell_far (p := ⟨gb138, _, none⟩) NB137_138.out _).trans (((cell_far (p := ⟨gb138, _, none⟩) NB137_138.out _).trans (hHeld.2.1)))))), ((cell_far (p := ⟨gb138, _, none⟩) NB137_138.out _).trans (((cell_far (p := ⟨gb138, _, none⟩) NB137_138.out _).trans (((cell_far (p := ⟨gb138, _, none⟩) NB137_138.out _).trans (hHeld.2.2.1)))))), ((cell_far (p := ⟨gb138, _, none⟩) NB137_138.out _).trans (((cell_far (p := ⟨gb138, _, none⟩) NB137_138.out _).trans (((cell_far (p := ⟨gb138, _, none⟩) NB137_138.out _).trans (hHeld.2.2.2))))))⟩ (fun hHeld => ?_)
  clear hK K
  refine done_ (done_of HT_.out (by kernel_rfl)) ?_
  try go_wp2
  refine bodyPost_ret (results_cell_row rfl _ _ gb138 26 #[.bool true, .int .i64 (wrap64 (Go.bits .or .u64 (IntKind.u64.wrap (a0_1)) (Go.bits BinOp.xor IntKind.u64 (if IntKind.u64.signed = true then -1 else IntKind.u64.max) t139))), .int .i64 (wrap64 (Go.bits .or .u64 (IntKind.u64.wrap (a0_2)) (Go.bits BinOp.xor IntKind.u64 (if IntKind.u64.signed = true then -1 else IntKind.u64.max) t140)))] (0, 0) _ rfl (by (with_reducible repeat (first | apply blk_drewN | apply blk_drew | apply blk_alloc)); refine blk_put (cs := #[.bool true, .int .i64 (wrap64 (Go.bits .or .u64 (IntKind.u64.wrap (a0_1)) (Go.bits BinOp.xor IntKind.u64 (if IntKind.u64.signed = true then -1 else IntKind.u64.max) t139))), .int .i64 0]) ?_ 2 _ rfl; (with_reducible repeat (first | apply blk_drewN | apply blk_drew | apply blk_alloc)); refine blk_put (cs := #[.bool true, .int .i64 0, .int .i64 0]) ?_ 1 _ rfl; (with_reducible repeat (first | apply blk_drewN | apply blk_drew | apply blk_alloc)); refine blk_put (cs := #[.bool false, .int .i64 0, .int .i64 0]) ?_ 0 _ rfl; (with_reducible repeat (first | apply blk_drewN | apply blk_drew | apply blk_alloc)); exact BK138.out) Try.underlying26 rfl (by kernel_rfl)) rfl ?_
  exact ⟨by first | rfl | (simp [errW_none, errW_some] <;> rfl) | (simp [*, errW_none, errW_some] <;> rfl), by repeat (first | (with_reducible first | exact HB.out | apply below_alloc | apply pw_below_drewN | apply below_drew1 | refine below_set ?_ GE137.out | refine below_set ?_ GE138.out) | exact HB.out)⟩
 ·replace c2 := Bool.eq_false_iff.mpr c2
  subst c2
  have H1 : ((spec_l2High.f a0_3).bind fun t141 => (some (false, 0, Go.bits .or .i64 a0_2 (wrap64 ((Go.bits BinOp.xor IntKind.u64 (if IntKind.u64.signed = true then -1 else IntKind.u64.max) t141) / 4294967296))))) = some (r1, r2, r3) := by rw [if_neg (show ¬ (false = true) by decide)] at H; exact H
  clear H
  have H := H1
  clear H1
  replace H := Option.bind_eq_some_iff.mp H
  obtain ⟨t141, A130, H⟩ := H
  replace H : (some (false, 0, Go.bits .or .i64 a0_2 (wrap64 ((Go.bits BinOp.xor IntKind.u64 (if IntKind.u64.signed = true then -1 else IntKind.u64.max) t141) / 4294967296)))) = some (r1, r2, r3) := H
  have A13 := Aside0.mk A130
  clear A130
  simp only [Option.some.injEq, Prod.mk.injEq] at H
  obtain ⟨rfl, rfl, rfl⟩ := H
  go_enter Try.func119, Try.ntmps119
  try go_wp2_with (first | ((with_reducible refine gate_dst (N := 1) rfl ?_); refine box_event ?hg (N := 1) ?hd (cs := #[.bool false, .int .i64 a0_1, .int .i64 a0_2, .int .i64 a0_3]) (t := 32) ?hr ?_; (case hd => rfl); (case hg => rfl); (case hr => first | (go_simp; done) | (go_simp; rfl)); intro gb137 hg w14 hbox hb; have n0_ := Aside0.mk (below_step (by repeat (first | (with_reducible first | exact HB.out | apply below_alloc | apply pw_below_drewN | apply below_drew1) | exact HB.out)) hb); have n1_ := Aside0.mk (hbox); have n2_ := Aside0.mk ((by rw [hg]; exact (below_size (by repeat (first | (with_reducible first | exact HB.out | apply below_alloc | apply pw_below_drewN | apply below_drew1) | exact HB.out))) : w.heap.size ≤ gb137)); have n3_ := Aside0.mk ((by rw [hg]; exact (below_size (by repeat (first | (with_reducible first | exact HB.out | apply below_alloc | apply pw_below_drewN | apply below_drew1) | exact HB.out))) : w.heap.size ≤ gb137)); clear HB; have HB := n0_; have BK137 := n1_; have GW137 := n2_; have GE137 := n3_; clear n0_ n1_ n2_ n3_; clear hb hbox hg) | ((with_reducible refine gate_dst (N := 2) rfl ?_); refine box_event ?hg (N := 2) ?hd (cs := #[.bool false, .int .i64 0, .int .i64 0]) (t := 26) ?hr ?_; (case hd => rfl); (case hg => rfl); (case hr => first | (go_simp; done) | (go_simp; rfl)); intro gb138 hg w15 hbox hb; have n0_ := Aside0.mk (blk_below (g := gb137) (o := .cells #[.bool false, .int .i64 a0_1, .int .i64 a0_2, .int .i64 a0_3] 32 (0, 0)) (by (with_reducible repeat (first | apply blk_drewN | apply blk_drew | apply blk_alloc)); exact BK137.out) hb); have n1_ := Aside0.mk (below_step (by repeat (first | (with_reducible first | exact HB.out | apply below_alloc | apply pw_below_drewN | apply below_drew1 | refine below_set ?_ GE137.out) | exact HB.out)) hb); have n2_ := Aside0.mk (hbox); have n3_ := Aside0.mk ((by rw [hg]; exact (below_size (by repeat (first | (with_reducible first | exact HB.out | apply below_alloc | apply pw_below_drewN | apply below_drew1 | refine below_set ?_ GE137.out) | exact HB.out))) : w.heap.size ≤ gb138)); have n4_ := Aside0.mk ((by rw [hg]; exact (below_size (by repeat (first | (with_reducible first | exact HB.out | apply below_alloc | apply pw_below_drewN | apply below_drew1 | refine below_set ?_ GE137.out) | exact HB.out))) : w.heap.size ≤ gb138)); have n5_ := Aside0.mk ((by rw [hg]; exact Nat.ne_of_lt (blk_lt (g := gb137) (o := .cells #[.bool false, .int .i64 a0_1, .int .i64 a0_2, .int .i64 a0_3] 32 (0, 0)) (by (with_reducible repeat (first | apply blk_drewN | apply blk_drew | apply blk_alloc)); exact BK137.out)) : gb137 ≠ gb138)); have n6_ := Aside0.mk ((by rw [hg]; exact Nat.ne_of_gt (blk_lt (g := gb137) (o := .cells #[.bool false, .int .i64 a0_1, .int .i64 a0_2, .int .i64 a0_3] 32 (0, 0)) (by (with_reducible repeat (first | apply blk_drewN | apply blk_drew | apply blk_alloc)); exact BK137.out)) : gb138 ≠ gb137)); clear BK137; clear HB; have BK137 := n0_; have HB := n1_; have BK138 := n2_; have GW138 := n3_; have GE138 := n4_; have NB137_138 := n5_; have NB138_137 := n6_; clear n0_ n1_ n2_ n3_ n4_ n5_ n6_; clear hb hbox hg; have hnb16 := NB137_138.out; have hnc16 := NB138_137.out; have hcz17_0 : w15.cell? ⟨gb137, 0, none⟩ = some (.bool false) := (blk_cell BK137.out 0).trans rfl; have hcz17_1 : w15.cell? ⟨gb137, 1, none⟩ = some (.int .i64 a0_1) := (blk_cell BK137.out 1).trans rfl; have hcz17_2 : w15.cell? ⟨gb137, 2, none⟩ = some (.int .i64 a0_2) := (blk_cell BK137.out 2).trans rfl; have hcz17_3 : w15.cell? ⟨gb137, 3, none⟩ = some (.int .i64 a0_3) := (blk_cell BK137.out 3).trans rfl; have hfz17_0 := blk_frozen BK137.out 0; have hfz17_1 := blk_frozen BK137.out 1; have hfz17_2 := blk_frozen BK137.out 2; have hfz17_3 := blk_frozen BK137.out 3))
  have n0_ := Aside0.mk (blk_drew BK137.out)
  have n1_ := Aside0.mk (blk_drew BK138.out)
  have n2_ := Aside0.mk (below_drew1 HB.out)
  clear BK137
  clear BK138
  clear HB
  have BK137 := n0_
  have BK138 := n1_
  have HB := n2_
  clear n0_ n1_ n2_
  refine start_ (n := 12) (S := fun w' => w'.cell? ⟨gb137, 0, none⟩ = some (.bool false) ∧ w'.cell? ⟨gb137, 1, none⟩ = some (.int .i64 a0_1) ∧ w'.cell? ⟨gb137, 2, none⟩ = some (.int .i64 a0_2) ∧ w'.cell? ⟨gb137, 3, none⟩ = some (.int .i64 a0_3)) (ds := []) #[false, false, false, false, false, false, false, false, false, false, false, false] (by kernel_rfl) rfl rfl ⟨(blk_cell BK137.out 0).trans rfl, (blk_cell BK137.out 1).trans rfl, (blk_cell BK137.out 2).trans rfl, (blk_cell BK137.out 3).trans rfl⟩ (fun hHeld => ?_); refine with_tabW spec_l2Last.tab2 spec_l2Last.bits2 (fun HT_ HW_ => ?_)
  generalize w15.drew = w18 at BK137 BK138 HB hHeld ⊢
  refine pure_ (i := 0) (N := some 7) (v := ?_) (a' := ?_) #[true, false, false, false, false, false, false, false, false, false, false, false] rfl rfl (any_of HT_.out (by kernel_rfl)) (fun _ _ _ h => h) (Or.inl ⟨by rfl, ?_⟩) ?_ ?_
  rotate_left
  ·intro w'
   go_simp
   with_reducible rfl
  rotate_left
  ·simp only [put, setIfInBounds_toArray, set_cons_zero, set_cons_succ, i64_w, i32_w]
   rfl
  refine pure_ (i := 1) (N := some 8) (v := ?_) (a' := ?_) #[true, true, false, false, false, false, false, false, false, false, false, false] rfl rfl (any_of HT_.out (by kernel_rfl)) (fun _ _ _ h => h) (Or.inl ⟨by rfl, ?_⟩) ?_ ?_
  rotate_left
  ·intro w'
   go_simp
   with_reducible rfl
  rotate_left
  ·simp only [put, setIfInBounds_toArray, set_cons_zero, set_cons_succ, i64_w, i32_w]
   rfl
  refine pure_ (i := 3) (N := some 10) (v := ?_) (a' := ?_) #[true, true, false, true, false, false, false, false, false, false, false, false] rfl rfl (any_of HT_.out (by kernel_rfl)) (fun _ _ _ h => h) (Or.inl ⟨by rfl, ?_⟩) ?_ ?_
  rotate_left
  ·intro w'
   go_simp
   with_reducible rfl
  rotate_left
  ·simp only [put, setIfInBounds_toArray, set_cons_zero, set_cons_succ, i64_w, i32_w]
   rfl
  refine take_ (i := 2) (N := some 9) (v := ?_) (a' := ?_) #[true, true, true, true, false, false, false, false, false, false, false, false] rfl rfl (take_ofW HT_.out HW_.out (by kernel_rfl)) (fun _ _ _ h => h) (Or.inl ⟨by rfl, ?_⟩) hHeld ?_ ?_
  rotate_left
  ·rintro w' ⟨s0, s1, s2, s3⟩
   go_simp
   with_reducible rfl
  rotate_left
  ·simp only [put, setIfInBounds_toArray, set_cons_zero, set_cons_succ, i64_w, i32_w]
   rfl
  refine take_ (i := 4) (N := some 11) (v := ?_) (a' := ?_) #[true, true, true, true, true, false, false, false, false, false, false, false] rfl rfl (take_ofW HT_.out HW_.out (by kernel_rfl)) (fun _ _ _ h => h) (Or.inl ⟨by rfl, ?_⟩) hHeld ?_ ?_
  rotate_left
  ·rintro w' ⟨s0, s1, s2, s3⟩
   go_simp
   with_reducible rfl
  rotate_left
  ·simp only [put, setIfInBounds_toArray, set_cons_zero, set_cons_succ, i64_w, i32_w]
   rfl
  refine one_ (i := 5) (N := some 12) #[true, true, true, true, true, true, false, false, false, false, false, false] rfl rfl (one_of HT_.out (by kernel_rfl)) (by decide) (fun K hK => ?_)
  refine goes_ Try.func132 (by kernel_rfl) rfl #[.int .i64 a0_3] (by rfl) rfl rfl (by (try simp only [List.map_toArray, List.map_cons, List.map_nil]); first | done | rfl | (simp only [List.length_drop, List.length_take]; rfl)) ?_
  with_reducible refine (spec_l2High.calls a0_3 t141 _ A13.out).mono ?_
  rintro e w' ⟨rfl, ⟨nd, rfl⟩⟩
  refine ⟨_, rfl, ?_⟩
  refine hK.out _ _ ⟨(blk_cell BK137.out 0).trans rfl, (blk_cell BK137.out 1).trans rfl, (blk_cell BK137.out 2).trans rfl, (blk_cell BK137.out 3).trans rfl⟩ (fun hHeld => ?_)
  clear hK K
  refine norm_ (a' := ?_) ?_ ?_
  rotate_left
  ·show Act.put _ (some 12) _ = _
   simp only [put, setIfInBounds_toArray, set_cons_zero, set_cons_succ, i64_w, i32_w]
   rfl
  refine pure_ (i := 6) (N := some 13) (v := ?_) (a' := ?_) #[true, true, true, true, true, true, true, false, false, false, false, false] rfl rfl (any_of HT_.out (by kernel_rfl)) (fun _ _ _ h => h) (Or.inl ⟨by rfl, ?_⟩) ?_ ?_
  rotate_left
  ·intro w'
   go_simp
   with_reducible rfl
  rotate_left
  ·simp only [put, setIfInBounds_toArray, set_cons_zero, set_cons_succ, i64_w, i32_w]
   rfl
  refine pure_ (i := 7) (N := some 14) (v := ?_) (a' := ?_) #[true, true, true, true, true, true, true, true, false, false, false, false] rfl rfl (any_of HT_.out (by kernel_rfl)) (fun _ _ _ h => h) (Or.inl ⟨by rfl, ?_⟩) ?_ ?_
  rotate_left
  ·intro w'
   go_simp
   with_reducible rfl
  rotate_left
  ·simp only [put, setIfInBounds_toArray, set_cons_zero, set_cons_succ, i64_w, i32_w]
   rfl
  refine pure_ (i := 8) (N := some 15) (v := ?_) (a' := ?_) #[true, true, true, true, true, true, true, true, true, false, false, false] rfl rfl (any_of HT_.out (by kernel_rfl)) (fun _ _ _ h => h) (Or.inl ⟨by rfl, ?_⟩) ?_ ?_
  rotate_left
  ·intro w'
   go_simp
   with_reducible rfl
  rotate_left
  ·simp only [put, setIfInBounds_toArray, set_cons_zero, set_cons_succ, i64_w, i32_w]
   rfl
  refine pure_ (i := 9) (N := some 16) (v := ?_) (a' := ?_) #[true, true, true, true, true, true, true, true, true, true, false, false] rfl rfl (any_of HT_.out (by kernel_rfl)) (fun _ _ _ h => h) (Or.inl ⟨by rfl, ?_⟩) ?_ ?_
  rotate_left
  ·intro w'
   go_simp
   with_reducible rfl
  rotate_left
  ·simp only [put, setIfInBounds_toArray, set_cons_zero, set_cons_succ, i64_w, i32_w]
   rfl
  refine pure_ (i := 10) (N := some 17) (v := ?_) (a' := ?_) #[true, true, true, true, true, true, true, true, true, true, true, false] rfl rfl (any_of HT_.out (by kernel_rfl)) (fun _ _ _ h => h) (Or.inl ⟨by rfl, ?_⟩) ?_ ?_
  rotate_left
  ·intro w'
   go_simp
   with_reducible rfl
  rotate_left
  ·simp only [put, setIfInBounds_toArray, set_cons_zero, set_cons_succ, i64_w, i32_w]
   rfl
  refine one_ (i := 11) (N := none) #[true, true, true, true, true, true, true, true, true, true, true, true] rfl rfl (one_of HT_.out (by kernel_rfl)) (by decide) (fun K hK => ?_)
  have hs19 : w18.cell? ⟨gb138, 0, none⟩ = some (.bool false) := (blk_cell BK138.out 0).trans rfl
  have hfs19 := blk_frozen BK138.out 0
  have hns19_0 := NB137_138.out
  have hms19_0 := NB138_137.out
  have hs20 : w18.cell? ⟨gb138, 1, none⟩ = some (.int .i64 0) := (blk_cell BK138.out 1).trans rfl
  have hfs20 := blk_frozen BK138.out 1
  have hns20_0 := NB137_138.out
  have hms20_0 := NB138_137.out
  have hs21 : w18.cell? ⟨gb138, 2, none⟩ = some (.int .i64 0) := (blk_cell BK138.out 2).trans rfl
  have hfs21 := blk_frozen BK138.out 2
  have hns21_0 := NB137_138.out
  have hms21_0 := NB138_137.out
  refine skip_ (w1 := ?_) (by rfl) rfl ?_ ?_
  rotate_left
  ·go_simp
   rfl
  refine hK.out _ _ ⟨((cell_far (p := ⟨gb138, _, none⟩) NB137_138.out _).trans (((cell_far (p := ⟨gb138, _, none⟩) NB137_138.out _).trans (((cell_far (p := ⟨gb138, _, none⟩) NB137_138.out _).trans (hHeld.1)))))), ((cell_far (p := ⟨gb138, _, none⟩) NB137_138.out _).trans (((cell_far (p := ⟨gb138, _, none⟩) NB137_138.out _).trans (((cell_far (p := ⟨gb138, _, none⟩) NB137_138.out _).trans (hHeld.2.1)))))), ((cell_far (p := ⟨gb138, _, none⟩) NB137_138.out _).trans (((cell_far (p := ⟨gb138, _, none⟩) NB137_138.out _).trans (((cell_far (p := ⟨gb138, _, none⟩) NB137_138.out _).trans (hHeld.2.2.1)))))), ((cell_far (p := ⟨gb138, _, none⟩) NB137_138.out _).trans (((cell_far (p := ⟨gb138, _, none⟩) NB137_138.out _).trans (((cell_far (p := ⟨gb138, _, none⟩) NB137_138.out _).trans (hHeld.2.2.2))))))⟩ (fun hHeld => ?_)
  clear hK K
  refine done_ (done_of HT_.out (by kernel_rfl)) ?_
  try go_wp2
  refine bodyPost_ret (results_cell_row rfl _ _ gb138 26 #[.bool false, .int .i64 0, .int .i64 (Go.bits .or .i64 a0_2 (wrap64 ((Go.bits BinOp.xor IntKind.u64 (if IntKind.u64.signed = true then -1 else IntKind.u64.max) t141) / 4294967296)))] (0, 0) _ rfl (by (with_reducible repeat (first | apply blk_drewN | apply blk_drew | apply blk_alloc)); refine blk_put (cs := #[.bool false, .int .i64 0, .int .i64 0]) ?_ 2 _ rfl; (with_reducible repeat (first | apply blk_drewN | apply blk_drew | apply blk_alloc)); refine blk_put (cs := #[.bool false, .int .i64 0, .int .i64 0]) ?_ 1 _ rfl; (with_reducible repeat (first | apply blk_drewN | apply blk_drew | apply blk_alloc)); refine blk_put (cs := #[.bool false, .int .i64 0, .int .i64 0]) ?_ 0 _ rfl; (with_reducible repeat (first | apply blk_drewN | apply blk_drew | apply blk_alloc)); exact BK138.out) Try.underlying26 rfl (by kernel_rfl)) rfl ?_
  exact ⟨by first | rfl | (simp [errW_none, errW_some] <;> rfl) | (simp [*, errW_none, errW_some] <;> rfl), by repeat (first | (with_reducible first | exact HB.out | apply below_alloc | apply pw_below_drewN | apply below_drew1 | refine below_set ?_ GE137.out | refine below_set ?_ GE138.out) | exact HB.out)⟩

/-! ### spec_l2Halves: function 79 -/
def spec_l2Halves.f (a0_0 : Bool) (a0_1 : Int) (a0_2 : Int) (a0_3 : Int) : Option (Bool × Int × Int × Int × Bool × Int × Int × Int) := (spec_l2Last.f a0_0 a0_1 a0_2 a0_3).bind fun bt146 => ((spec_l2Mask.f bt146.1 bt146.2.1 bt146.2.2 (wrap64 (a0_3 + 1))).bind fun bt150 => (some (a0_0, a0_1, a0_2, wrap64 (a0_3 + 1), bt150.1, bt150.2.1, bt150.2.2, wrap64 (a0_3 + 1))))
def spec_l2Halves.T3 : Bool × List (List Nat × List Nat) := (true, [([], []), ([], []), ([], []), ([2], [2]), ([3], [3]), ([1, 4], [1, 4]), ([], []), ([6], [6]), ([7], [7]), ([5, 8], [5, 8]), ([0, 5, 0], [0]), ([9, 10, 0, 1, 2, 3, 4, 5, 6, 7, 8, 9, 10], [9])])
def spec_l2Halves.B3 : List Nat := [0, 0, 0, 4, 12, 30, 0, 64, 192, 510, 63, 2047]
theorem spec_l2Halves.tab3 : rtab .any (opsOf Try.f79 3) = spec_l2Halves.T3 := by kernel_rfl
theorem spec_l2Halves.bits3 : waitsOk spec_l2Halves.T3.2 spec_l2Halves.B3 = true := by kernel_rfl
set_option maxHeartbeats 8000000 in
set_option maxRecDepth 100000 in
theorem spec_l2Halves.calls (a0_0 : Bool) (a0_1 : Int) (a0_2 : Int) (a0_3 : Int) (r1 : Bool) (r2 : Int) (r3 : Int) (r4 : Int) (r5 : Bool) (r6 : Int) (r7 : Int) (r8 : Int) (w : World) (h : spec_l2Halves.f a0_0 a0_1 a0_2 a0_3 = some (r1, r2, r3, r4, r5, r6, r7, r8)) :
  Calls Try.prog 79 #[.agg #[.bool a0_0, .int .i64 a0_1, .int .i64 a0_2, .int .i64 a0_3]] w fun e w' => e = .returned (.tuple #[.agg #[.bool r1, .int .i64 r2, .int .i64 r3, .int .i64 r4], .agg #[.bool r5, .int .i64 r6, .int .i64 r7, .int .i64 r8]]) ∧ Below w.heap.size w w' := by
 have hu32 := Try.underlying32
 have hu26 := Try.underlying26
 have HB := Aside0.mk (Below.refl w.heap.size w)
 have H : ((spec_l2Last.f a0_0 a0_1 a0_2 a0_3).bind fun bt146 => ((spec_l2Mask.f bt146.1 bt146.2.1 bt146.2.2 (wrap64 (a0_3 + 1))).bind fun bt150 => (some (a0_0, a0_1, a0_2, wrap64 (a0_3 + 1), bt150.1, bt150.2.1, bt150.2.2, wrap64 (a0_3 + 1))))) = some (r1, r2, r3, r4, r5, r6, r7, r8) := h
 clear h
 replace H := Option.bind_eq_some_iff.mp H
 obtain ⟨⟨t146, t147, t148⟩, A20, H⟩ := H
 replace H : ((spec_l2Mask.f t146 t147 t148 (wrap64 (a0_3 + 1))).bind fun bt150 => (some (a0_0, a0_1, a0_2, wrap64 (a0_3 + 1), bt150.1, bt150.2.1, bt150.2.2, wrap64 (a0_3 + 1)))) = some (r1, r2, r3, r4, r5, r6, r7, r8) := H
 have A2 := Aside0.mk A20
 clear A20
 replace H := Option.bind_eq_some_iff.mp H
 obtain ⟨⟨t150, t151, t152⟩, A30, H⟩ := H
 replace H : (some (a0_0, a0_1, a0_2, wrap64 (a0_3 + 1), t150, t151, t152, wrap64 (a0_3 + 1))) = some (r1, r2, r3, r4, r5, r6, r7, r8) := H
 have A3 := Aside0.mk A30
 clear A30
 simp only [Option.some.injEq, Prod.mk.injEq] at H
 obtain ⟨rfl, rfl, rfl, rfl, rfl, rfl, rfl, rfl⟩ := H
 go_enter Try.func79, Try.ntmps79
 try go_wp2_with (first | ((with_reducible refine gate_dst (N := 1) rfl ?_); refine box_event ?hg (N := 1) ?hd (cs := #[.bool a0_0, .int .i64 a0_1, .int .i64 a0_2, .int .i64 a0_3]) (t := 32) ?hr ?_; (case hd => rfl); (case hg => rfl); (case hr => first | (go_simp; done) | (go_simp; rfl)); intro gb142 hg w4 hbox hb; have n0_ := Aside0.mk (below_step (by repeat (first | (with_reducible first | exact HB.out | apply below_alloc | apply pw_below_drewN | apply below_drew1) | exact HB.out)) hb); have n1_ := Aside0.mk (hbox); have n2_ := Aside0.mk ((by rw [hg]; exact (below_size (by repeat (first | (with_reducible first | exact HB.out | apply below_alloc | apply pw_below_drewN | apply below_drew1) | exact HB.out))) : w.heap.size ≤ gb142)); have n3_ := Aside0.mk ((by rw [hg]; exact (below_size (by repeat (first | (with_reducible first | exact HB.out | apply below_alloc | apply pw_below_drewN | apply below_drew1) | exact HB.out))) : w.heap.size ≤ gb142)); clear HB; have HB := n0_; have BK142 := n1_; have GW142 := n2_; have GE142 := n3_; clear n0_ n1_ n2_ n3_; clear hb hbox hg) | ((with_reducible refine gate_dst (N := 2) rfl ?_); refine box_event ?hg (N := 2) ?hd (cs := #[.bool false, .int .i64 0, .int .i64 0, .int .i64 0]) (t := 32) ?hr ?_; (case hd => rfl); (case hg => rfl); (case hr => first | (go_simp; done) | (go_simp; rfl)); intro gb143 hg w5 hbox hb; have n0_ := Aside0.mk (blk_below (g := gb142) (o := .cells #[.bool a0_0, .int .i64 a0_1, .int .i64 a0_2, .int .i64 a0_3] 32 (0, 0)) (by (with_reducible repeat (first | apply blk_drewN | apply blk_drew | apply blk_alloc)); exact BK142.out) hb); have n1_ := Aside0.mk (below_step (by repeat (first | (with_reducible first | exact HB.out | apply below_alloc | apply pw_below_drewN | apply below_drew1 | refine below_set ?_ GE142.out) | exact HB.out)) hb); have n2_ := Aside0.mk (hbox); have n3_ := Aside0.mk ((by rw [hg]; exact (below_size (by repeat (first | (with_reducible first | exact HB.out | apply below_alloc | apply pw_below_drewN | apply below_drew1 | refine below_set ?_ GE142.out) | exact HB.out))) : w.heap.size ≤ gb143)); have n4_ := Aside0.mk ((by rw [hg]; exact (below_size (by repeat (first | (with_reducible first | exact HB.out | apply below_alloc | apply pw_below_drewN | apply below_drew1 | refine below_set ?_ GE142.out) | exact HB.out))) : w.heap.size ≤ gb143)); have n5_ := Aside0.mk ((by rw [hg]; exact Nat.ne_of_lt (blk_lt (g := gb142) (o := .cells #[.bool a0_0, .int .i64 a0_1, .int .i64 a0_2, .int .i64 a0_3] 32 (0, 0)) (by (with_reducible repeat (first | apply blk_drewN | apply blk_drew | apply blk_alloc)); exact BK142.out)) : gb142 ≠ gb143)); have n6_ := Aside0.mk ((by rw [hg]; exact Nat.ne_of_gt (blk_lt (g := gb142) (o := .cells #[.bool a0_0, .int .i64 a0_1, .int .i64 a0_2, .int .i64 a0_3] 32 (0, 0)) (by (with_reducible repeat (first | apply blk_drewN | apply blk_drew | apply blk_alloc)); exact BK142.out)) : gb143 ≠ gb142)); clear BK142; clear HB; have BK142 := n0_; have HB := n1_; have BK143 := n2_; have GW143 := n3_; have GE143 := n4_; have NB142_143 := n5_; have NB143_142 := n6_; clear n0_ n1_ n2_ n3_ n4_ n5_ n6_; clear hb hbox hg) | ((with_reducible refine gate_dst (N := 3) rfl ?_); refine box_event ?hg (N := 3) ?hd (cs := #[.bool false, .int .i64 0, .int .i64 0, .int .i64 0]) (t := 32) ?hr ?_; (case hd => rfl); (case hg => rfl); (case hr => first | (go_simp; done) | (go_simp; rfl)); intro gb144 hg w6 hbox hb; have n0_ := Aside0.mk (blk_below (g := gb142) (o := .cells #[.bool a0_0, .int .i64 a0_1, .int .i64 a0_2, .int .i64 a0_3] 32 (0, 0)) (by (with_reducible repeat (first | apply blk_drewN | apply blk_drew | apply blk_alloc)); exact BK142.out) hb); have n1_ := Aside0.mk (blk_below (g := gb143) (o := .cells #[.bool false, .int .i64 0, .int .i64 0, .int .i64 0] 32 (0, 0)) (by (with_reducible repeat (first | apply blk_drewN | apply blk_drew | apply blk_alloc)); exact BK143.out) hb); have n2_ := Aside0.mk (below_step (by repeat (first | (with_reducible first | exact HB.out | apply below_alloc | apply pw_below_drewN | apply below_drew1 | refine below_set ?_ GE142.out | refine below_set ?_ GE143.out) | exact HB.out)) hb); have n3_ := Aside0.mk (hbox); have n4_ := Aside0.mk ((by rw [hg]; exact (below_size (by repeat (first | (with_reducible first | exact HB.out | apply below_alloc | apply pw_below_drewN | apply below_drew1 | refine below_set ?_ GE142.out | refine below_set ?_ GE143.out) | exact HB.out))) : w.heap.size ≤ gb144)); have n5_ := Aside0.mk ((by rw [hg]; exact (below_size (by repeat (first | (with_reducible first | exact HB.out | apply below_alloc | apply pw_below_drewN | apply below_drew1 | refine below_set ?_ GE142.out | refine below_set ?_ GE143.out) | exact HB.out))) : w.heap.size ≤ gb144)); have n6_ := Aside0.mk ((by rw [hg]; exact Nat.ne_of_lt (blk_lt (g := gb142) (o := .cells #[.bool a0_0, .int .i64 a0_1, .int .i64 a0_2, .int .i64 a0_3] 32 (0, 0)) (by (with_reducible repeat (first | apply blk_drewN | apply blk_drew | apply blk_alloc)); exact BK142.out)) : gb142 ≠ gb144)); have n7_ := Aside0.mk ((by rw [hg]; exact Nat.ne_of_gt (blk_lt (g := gb142) (o := .cells #[.bool a0_0, .int .i64 a0_1, .int .i64 a0_2, .int .i64 a0_3] 32 (0, 0)) (by (with_reducible repeat (first | apply blk_drewN | apply blk_drew | apply blk_alloc)); exact BK142.out)) : gb144 ≠ gb142)); have n8_ := Aside0.mk ((by rw [hg]; exact Nat.ne_of_lt (blk_lt (g := gb143) (o := .cells #[.bool false, .int .i64 0, .int .i64 0, .int .i64 0] 32 (0, 0)) (by (with_reducible repeat (first | apply blk_drewN | apply blk_drew | apply blk_alloc)); exact BK143.out)) : gb143 ≠ gb144)); have n9_ := Aside0.mk ((by rw [hg]; exact Nat.ne_of_gt (blk_lt (g := gb143) (o := .cells #[.bool false, .int .i64 0, .int .i64 0, .int .i64 0] 32 (0, 0)) (by (with_reducible repeat (first | apply blk_drewN | apply blk_drew | apply blk_alloc)); exact BK143.out)) : gb144 ≠ gb143)); clear BK142; clear BK143; clear HB; have BK142 := n0_; have BK143 := n1_; have HB := n2_; have BK144 := n3_; have GW144 := n4_; have GE144 := n5_; have NB142_144 := n6_; have NB144_142 := n7_; have NB143_144 := n8_; have NB144_143 := n9_; clear n0_ n1_ n2_ n3_ n4_ n5_ n6_ n7_ n8_ n9_; clear hb hbox hg; have hnb7 := NB142_143.out; have hnc7 := NB143_142.out; have hnb8 := NB142_144.out; have hnc8 := NB144_142.out; have hcz9_0 : w6.cell? ⟨gb142, 0, none⟩ = some (.bool a0_0) := (blk_cell BK142.out 0).trans rfl; have hcz9_1 : w6.cell? ⟨gb142, 1, none⟩ = some (.int .i64 a0_1) := (blk_cell BK142.out 1).trans rfl; have hcz9_2 : w6.cell? ⟨gb142, 2, none⟩ = some (.int .i64 a0_2) := (blk_cell BK142.out 2).trans rfl; have hcz9_3 : w6.cell? ⟨gb142, 3, none⟩ = some (.int .i64 a0_3) := (blk_cell BK142.out 3).trans rfl; have hfz9_0 := blk_frozen BK142.out 0; have hfz9_1 := blk_frozen BK142.out 1; have hfz9_2 := blk_frozen BK142.out 2; have hfz9_3 := blk_frozen BK142.out 3) | ((with_reducible refine gate_dst (N := 4) rfl ?_); refine box_event ?hg (N := 4) ?hd (cs := #[.bool false, .int .i64 0, .int .i64 0, .int .i64 0]) (t := 32) ?hr ?_; (case hd => rfl); (case hg => rfl); (case hr => first | (go_simp; done) | (go_simp; rfl)); intro gb145 hg w10 hbox hb; have n0_ := Aside0.mk (blk_below (g := gb142) (o := .cells #[.bool a0_0, .int .i64 a0_1, .int .i64 a0_2, .int .i64 a0_3] 32 (0, 0)) (by (with_reducible repeat (first | apply blk_drewN | apply blk_drew | apply blk_alloc)); exact BK142.out) hb); have n1_ := Aside0.mk (blk_below (g := gb143) (o := .cells #[.bool false, .int .i64 0, .int .i64 0, .int .i64 0] 32 (0, 0)) (by (with_reducible repeat (first | apply blk_drewN | apply blk_drew | apply blk_alloc)); exact BK143.out) hb); have n2_ := Aside0.mk (blk_below (g := gb144) (o := .cells #[.bool false, .int .i64 0, .int .i64 0, .int .i64 0] 32 (0, 0)) (by (with_reducible repeat (first | apply blk_drewN | apply blk_drew | apply blk_alloc)); exact BK144.out) hb); have n3_ := Aside0.mk (below_step (by repeat (first | (with_reducible first | exact HB.out | apply below_alloc | apply pw_below_drewN | apply below_drew1 | refine below_set ?_ GE142.out | refine below_set ?_ GE143.out | refine below_set ?_ GE144.out) | exact HB.out)) hb); have n4_ := Aside0.mk (hbox); have n5_ := Aside0.mk ((by rw [hg]; exact (below_size (by repeat (first | (with_reducible first | exact HB.out | apply below_alloc | apply pw_below_drewN | apply below_drew1 | refine below_set ?_ GE142.out | refine below_set ?_ GE143.out | refine below_set ?_ GE144.out) | exact HB.out))) : w.heap.size ≤ gb145)); have n6_ := Aside0.mk ((by rw [hg]; exact (below_size (by repeat (first | (with_reducible first | exact HB.out | apply below_alloc | apply pw_below_drewN | apply below_drew1 | refine below_set ?_ GE142.out | refine below_set ?_ GE143.out | refine below_set ?_ GE144.out) | exact HB.out))) : w.heap.size ≤ gb145)); have n7_ := Aside0.mk ((by rw [hg]; exact Nat.ne_of_lt (blk_lt (g := gb142) (o := .cells #[.bool a0_0, .int .i64 a0_1, .int .i64 a0_2, .int .i64 a0_3] 32 (0, 0)) (by (with_reducible repeat (first | apply blk_drewN | apply blk_drew | apply blk_alloc)); exact BK142.out)) : gb142 ≠ gb145)); have n8_ := Aside0.mk ((by rw [hg]; exact Nat.ne_of_gt (blk_lt (g := gb142) (o := .cells #[.bool a0_0, .int .i64 a0_1, .int .i64 a0_2, .int .i64 a0_3] 32 (0, 0)) (by (with_reducible repeat (first | apply blk_drewN | apply blk_drew | apply blk_alloc)); exact BK142.out)) : gb145 ≠ gb142)); have n9_ := Aside0.mk ((by rw [hg]; exact Nat.ne_of_lt (blk_lt (g := gb143) (o := .cells #[.bool false, .int .i64 0, .int .i64 0, .int .i64 0] 32 (0, 0)) (by (with_reducible repeat (first | apply blk_drewN | apply blk_drew | apply blk_alloc)); exact BK143.out)) : gb143 ≠ gb145)); have n10_ := Aside0.mk ((by rw [hg]; exact Nat.ne_of_gt (blk_lt (g := gb143) (o := .cells #[.bool false, .int .i64 0, .int .i64 0, .int .i64 0] 32 (0, 0)) (by (with_reducible repeat (first | apply blk_drewN | apply blk_drew | apply blk_alloc)); exact BK143.out)) : gb145 ≠ gb143)); have n11_ := Aside0.mk ((by rw [hg]; exact Nat.ne_of_lt (blk_lt (g := gb144) (o := .cells #[.bool false, .int .i64 0, .int .i64 0, .int .i64 0] 32 (0, 0)) (by (with_reducible repeat (first | apply blk_drewN | apply blk_drew | apply blk_alloc)); exact BK144.out)) : gb144 ≠ gb145)); have n12_ := Aside0.mk ((by rw [hg]; exact Nat.ne_of_gt (blk_lt (g := gb144) (o := .cells #[.bool false, .int .i64 0, .int .i64 0, .int .i64 0] 32 (0, 0)) (by (with_reducible repeat (first | apply blk_drewN | apply blk_drew | apply blk_alloc)); exact BK144.out)) : gb145 ≠ gb144)); clear BK142; clear BK143; clear BK144; clear HB; have BK142 := n0_; have BK143 := n1_; have BK144 := n2_; have HB := n3_; have BK145 := n4_; have GW145 := n5_; have GE145 := n6_; have NB142_145 := n7_; have NB145_142 := n8_; have NB143_145 := n9_; have NB145_143 := n10_; have NB144_145 := n11_; have NB145_144 := n12_; clear n0_ n1_ n2_ n3_ n4_ n5_ n6_ n7_ n8_ n9_ n10_ n11_ n12_; clear hb hbox hg; have hnb11 := NB145_142.out; have hnc11 := NB142_145.out; have hnb12 := NB145_143.out; have hnc12 := NB143_145.out; have hnb13 := NB145_144.out; have hnc13 := NB144_145.out; have hcz14_0 : w10.cell? ⟨gb145, 0, none⟩ = some (.bool false) := (blk_cell BK145.out 0).trans rfl; have hcz14_1 : w10.cell? ⟨gb145, 1, none⟩ = some (.int .i64 0) := (blk_cell BK145.out 1).trans rfl; have hcz14_2 : w10.cell? ⟨gb145, 2, none⟩ = some (.int .i64 0) := (blk_cell BK145.out 2).trans rfl; have hcz14_3 : w10.cell? ⟨gb145, 3, none⟩ = some (.int .i64 0) := (blk_cell BK145.out 3).trans rfl; have hfz14_0 := blk_frozen BK145.out 0; have hfz14_1 := blk_frozen BK145.out 1; have hfz14_2 := blk_frozen BK145.out 2; have hfz14_3 := blk_frozen BK145.out 3; have hcz15_0 : w10.cell? ⟨gb142, 0, none⟩ = some (.bool a0_0) := (blk_cell BK142.out 0).trans rfl; have hcz15_1 : w10.cell? ⟨gb142, 1, none⟩ = some (.int .i64 a0_1) := (blk_cell BK142.out 1).trans rfl; have hcz15_2 : w10.cell? ⟨gb142, 2, none⟩ = some (.int .i64 a0_2) := (blk_cell BK142.out 2).trans rfl; have hcz15_3 : w10.cell? ⟨gb142, 3, none⟩ = some (.int .i64 a0_3) := (blk_cell BK142.out 3).trans rfl; have hfz15_0 := blk_frozen BK142.out 0; have hfz15_1 := blk_frozen BK142.out 1; have hfz15_2 := blk_frozen BK142.out 2; have hfz15_3 := blk_frozen BK142.out 3) | ((with_reducible refine gate_callee (f := 119) rfl ?_); refine goesL_ (some 13) rfl rfl Try.func119 (by kernel_rfl) rfl #[.agg #[.bool a0_0, .int .i64 a0_1, .int .i64 a0_2, .int .i64 a0_3]] rfl (by (try simp only [List.map_toArray, List.map_cons, List.map_nil]); first | done | rfl | (simp only [List.length_drop, List.length_take]; rfl)) ?_; (with_reducible refine (spec_l2Last.calls a0_0 a0_1 a0_2 a0_3 t146 t147 t148 _ A2.out).mono ?_); rintro e w16 ⟨rfl, hb⟩; refine ⟨_, rfl, ?_⟩; have n0_ := Aside0.mk (blk_below (g := gb142) (o := .cells #[.bool a0_0, .int .i64 a0_1, .int .i64 a0_2, .int .i64 a0_3] 32 (0, 0)) (by (with_reducible repeat (first | apply blk_drewN | apply blk_drew | apply blk_alloc)); refine blk_far ?_ NB142_145.out _; (with_reducible repeat (first | apply blk_drewN | apply blk_drew | apply blk_alloc)); refine blk_far ?_ NB142_145.out _; (with_reducible repeat (first | apply blk_drewN | apply blk_drew | apply blk_alloc)); refine blk_far ?_ NB142_145.out _; (with_reducible repeat (first | apply blk_drewN | apply blk_drew | apply blk_alloc)); refine blk_far ?_ NB142_145.out _; (with_reducible repeat (first | apply blk_drewN | apply blk_drew | apply blk_alloc)); exact BK142.out) hb); have n1_ := Aside0.mk (blk_below (g := gb143) (o := .cells #[.bool false, .int .i64 0, .int .i64 0, .int .i64 0] 32 (0, 0)) (by (with_reducible repeat (first | apply blk_drewN | apply blk_drew | apply blk_alloc)); refine blk_far ?_ NB143_145.out _; (with_reducible repeat (first | apply blk_drewN | apply blk_drew | apply blk_alloc)); refine blk_far ?_ NB143_145.out _; (with_reducible repeat (first | apply blk_drewN | apply blk_drew | apply blk_alloc)); refine blk_far ?_ NB143_145.out _; (with_reducible repeat (first | apply blk_drewN | apply blk_drew | apply blk_alloc)); refine blk_far ?_ NB143_145.out _; (with_reducible repeat (first | apply blk_drewN | apply blk_drew | apply blk_alloc)); exact BK143.out) hb); have n2_ := Aside0.mk (blk_below (g := gb144) (o := .cells #[.bool false, .int .i64 0, .int .i64 0, .int .i64 0] 32 (0, 0)) (by (with_reducible repeat (first | apply blk_drewN | apply blk_drew | apply blk_alloc)); refine blk_far ?_ NB144_145.out _; (with_reducible repeat (first | apply blk_drewN | apply blk_drew | apply blk_alloc)); refine blk_far ?_ NB144_145.out _; (with_reducible repeat (first | apply blk_drewN | apply blk_drew | apply blk_alloc)); refine blk_far ?_ NB144_145.out _; (with_reducible repeat (first | apply blk_drewN | apply blk_drew | apply blk_alloc)); refine blk_far ?_ NB144_145.out _; (with_reducible repeat (first | apply blk_drewN | apply blk_drew | apply blk_alloc)); exact BK144.out) hb); have n3_ := Aside0.mk (blk_below (g := gb145) (o := .cells #[.bool a0_0, .int .i64 a0_1, .int .i64 a0_2, .int .i64 (wrap64 (a0_3 + 1))] 32 (0, 0)) (by (with_reducible repeat (first | apply blk_drewN | apply blk_drew | apply blk_alloc)); refine blk_put (cs := #[.bool a0_0, .int .i64 a0_1, .int .i64 a0_2, .int .i64 0]) ?_ 3 _ rfl; (with_reducible repeat (first | apply blk_drewN | apply blk_drew | apply blk_alloc)); refine blk_put (cs := #[.bool a0_0, .int .i64 a0_1, .int .i64 0, .int .i64 0]) ?_ 2 _ rfl; (with_reducible repeat (first | apply blk_drewN | apply blk_drew | apply blk_alloc)); refine blk_put (cs := #[.bool a0_0, .int .i64 0, .int .i64 0, .int .i64 0]) ?_ 1 _ rfl; (with_reducible repeat (first | apply blk_drewN | apply blk_drew | apply blk_alloc)); refine blk_put (cs := #[.bool false, .int .i64 0, .int .i64 0, .int .i64 0]) ?_ 0 _ rfl; (with_reducible repeat (first | apply blk_drewN | apply blk_drew | apply blk_alloc)); exact BK145.out) hb); have n4_ := Aside0.mk (below_step (by repeat (first | (with_reducible first | exact HB.out | apply below_alloc | apply pw_below_drewN | apply below_drew1 | refine below_set ?_ GE142.out | refine below_set ?_ GE143.out | refine below_set ?_ GE144.out | refine below_set ?_ GE145.out) | exact HB.out)) hb); clear BK142; clear BK143; clear BK144; clear BK145; clear HB; have BK142 := n0_; have BK143 := n1_; have BK144 := n2_; have BK145 := n3_; have HB := n4_; clear n0_ n1_ n2_ n3_ n4_; (try clear hb); (try clear hb2); (try clear hk); (try clear hi)) | ((with_reducible refine gate_dst (N := 5) rfl ?_); refine box_event ?hg (N := 5) ?hd (cs := #[.bool false, .int .i64 0, .int .i64 0]) (t := 26) ?hr ?_; (case hd => rfl); (case hg => rfl); (case hr => first | (go_simp; done) | (go_simp; rfl)); intro gb149 hg w17 hbox hb; have n0_ := Aside0.mk (blk_below (g := gb142) (o := .cells #[.bool a0_0, .int .i64 a0_1, .int .i64 a0_2, .int .i64 a0_3] 32 (0, 0)) (by (with_reducible repeat (first | apply blk_drewN | apply blk_drew | apply blk_alloc)); exact BK142.out) hb); have n1_ := Aside0.mk (blk_below (g := gb143) (o := .cells #[.bool false, .int .i64 0, .int .i64 0, .int .i64 0] 32 (0, 0)) (by (with_reducible repeat (first | apply blk_drewN | apply blk_drew | apply blk_alloc)); exact BK143.out) hb); have n2_ := Aside0.mk (blk_below (g := gb144) (o := .cells #[.bool false, .int .i64 0, .int .i64 0, .int .i64 0] 32 (0, 0)) (by (with_reducible repeat (first | apply blk_drewN | apply blk_drew | apply blk_alloc)); exact BK144.out) hb); have n3_ := Aside0.mk (blk_below (g := gb145) (o := .cells #[.bool a0_0, .int .i64 a0_1, .int .i64 a0_2, .int .i64 (wrap64 (a0_3 + 1))] 32 (0, 0)) (by (with_reducible repeat (first | apply blk_drewN | apply blk_drew | apply blk_alloc)); exact BK145.out) hb); have n4_ := Aside0.mk (below_step (by repeat (first | (with_reducible first | exact HB.out | apply below_alloc | apply pw_below_drewN | apply below_drew1 | refine below_set ?_ GE142.out | refine below_set ?_ GE143.out | refine below_set ?_ GE144.out | refine below_set ?_ GE145.out) | exact HB.out)) hb); have n5_ := Aside0.mk (hbox); have n6_ := Aside0.mk ((by rw [hg]; exact (below_size (by repeat (first | (with_reducible first | exact HB.out | apply below_alloc | apply pw_below_drewN | apply below_drew1 | refine below_set ?_ GE142.out | refine below_set ?_ GE143.out | refine below_set ?_ GE144.out | refine below_set ?_ GE145.out) | exact HB.out))) : w.heap.size ≤ gb149)); have n7_ := Aside0.mk ((by rw [hg]; exact (below_size (by repeat (first | (with_reducible first | exact HB.out | apply below_alloc | apply pw_below_drewN | apply below_drew1 | refine below_set ?_ GE142.out | refine below_set ?_ GE143.out | refine below_set ?_ GE144.out | refine below_set ?_ GE145.out) | exact HB.out))) : w.heap.size ≤ gb149)); have n8_ := Aside0.mk ((by rw [hg]; exact Nat.ne_of_lt (blk_lt (g := gb142) (o := .cells #[.bool a0_0, .int .i64 a0_1, .int .i64 a0_2, .int .i64 a0_3] 32 (0, 0)) (by (with_reducible repeat (first | apply blk_drewN | apply blk_drew | apply blk_alloc)); exact BK142.out)) : gb142 ≠ gb149)); have n9_ := Aside0.mk ((by rw [hg]; exact Nat.ne_of_gt (blk_lt (g := gb142) (o := .cells #[.bool a0_0, .int .i64 a0_1, .int .i64 a0_2, .int .i64 a0_3] 32 (0, 0)) (by (with_reducible repeat (first | apply blk_drewN | apply blk_drew | apply blk_alloc)); exact BK142.out)) : gb149 ≠ gb142)); have n10_ := Aside0.mk ((by rw [hg]; exact Nat.ne_of_lt (blk_lt (g := gb143) (o := .cells #[.bool false, .int .i64 0, .int .i64 0, .int .i64 0] 32 (0, 0)) (by (with_reducible repeat (first | apply blk_drewN | apply blk_drew | apply blk_alloc)); exact BK143.out)) : gb143 ≠ gb149)); have n11_ := Aside0.mk ((by rw [hg]; exact Nat.ne_of_gt (blk_lt (g := gb143) (o := .cells #[.bool false, .int .i64 0, .int .i64 0, .int .i64 0] 32 (0, 0)) (by (with_reducible repeat (first | apply blk_drewN | apply blk_drew | apply blk_alloc)); exact BK143.out)) : gb149 ≠ gb143)); have n12_ := Aside0.mk ((by rw [hg]; exact Nat.ne_of_lt (blk_lt (g := gb144) (o := .cells #[.bool false, .int .i64 0, .int .i64 0, .int .i64 0] 32 (0, 0)) (by (with_reducible repeat (first | apply blk_drewN | apply blk_drew | apply blk_alloc)); exact BK144.out)) : gb144 ≠ gb149)); have n13_ := Aside0.mk ((by rw [hg]; exact Nat.ne_of_gt (blk_lt (g := gb144) (o := .cells #[.bool false, .int .i64 0, .int .i64 0, .int .i64 0] 32 (0, 0)) (by (with_reducible repeat (first | apply blk_drewN | apply blk_drew | apply blk_alloc)); exact BK144.out)) : gb149 ≠ gb144)); have n14_ := Aside0.mk ((by rw [hg]; exact Nat.ne_of_lt (blk_lt (g := gb145) (o := .cells #[.bool a0_0, .int .i64 a0_1, .int .i64 a0_2, .int .i64 (wrap64 (a0_3 + 1))] 32 (0, 0)) (by (with_reducible repeat (first | apply blk_drewN | apply blk_drew | apply blk_alloc)); exact BK145.out)) : gb145 ≠ gb149)); have n15_ := Aside0.mk ((by rw [hg]; exact Nat.ne_of_gt (blk_lt (g := gb145) (o := .cells #[.bool a0_0, .int .i64 a0_1, .int .i64 a0_2, .int .i64 (wrap64 (a0_3 + 1))] 32 (0, 0)) (by (with_reducible repeat (first | apply blk_drewN | apply blk_drew | apply blk_alloc)); exact BK145.out)) : gb149 ≠ gb145)); clear BK142; clear BK143; clear BK144; clear BK145; clear HB; have BK142 := n0_; have BK143 := n1_; have BK144 := n2_; have BK145 := n3_; have HB := n4_; have BK149 := n5_; have GW149 := n6_; have GE149 := n7_; have NB142_149 := n8_; have NB149_142 := n9_; have NB143_149 := n10_; have NB149_143 := n11_; have NB144_149 := n12_; have NB149_144 := n13_; have NB145_149 := n14_; have NB149_145 := n15_; clear n0_ n1_ n2_ n3_ n4_ n5_ n6_ n7_ n8_ n9_ n10_ n11_ n12_ n13_ n14_ n15_; clear hb hbox hg; have hnb18 := NB149_142.out; have hnc18 := NB142_149.out; have hnb19 := NB149_143.out; have hnc19 := NB143_149.out; have hnb20 := NB149_144.out; have hnc20 := NB144_149.out; have hnb21 := NB149_145.out; have hnc21 := NB145_149.out; have hcz22_0 : w17.cell? ⟨gb149, 0, none⟩ = some (.bool false) := (blk_cell BK149.out 0).trans rfl; have hcz22_1 : w17.cell? ⟨gb149, 1, none⟩ = some (.int .i64 0) := (blk_cell BK149.out 1).trans rfl; have hcz22_2 : w17.cell? ⟨gb149, 2, none⟩ = some (.int .i64 0) := (blk_cell BK149.out 2).trans rfl; have hfz22_0 := blk_frozen BK149.out 0; have hfz22_1 := blk_frozen BK149.out 1; have hfz22_2 := blk_frozen BK149.out 2))
 have n0_ : Aside0 ((((w17.setCell ⟨gb149, 0, none⟩ (.bool t146)).setCell ⟨gb149, 1, none⟩ (.int .i64 t147)).setCell ⟨gb149, 2, none⟩ (.int .i64 t148)).heap[gb142]? = some (.cells #[.bool a0_0, .int .i64 a0_1, .int .i64 a0_2, .int .i64 a0_3] 32 (0, 0))) := ⟨by (with_reducible repeat (first | apply blk_drewN | apply blk_drew | apply blk_alloc)); refine blk_far ?_ NB142_149.out _; (with_reducible repeat (first | apply blk_drewN | apply blk_drew | apply blk_alloc)); refine blk_far ?_ NB142_149.out _; (with_reducible repeat (first | apply blk_drewN | apply blk_drew | apply blk_alloc)); refine blk_far ?_ NB142_149.out _; (with_reducible repeat (first | apply blk_drewN | apply blk_drew | apply blk_alloc)); exact BK142.out⟩
 have n1_ : Aside0 ((((w17.setCell ⟨gb149, 0, none⟩ (.bool t146)).setCell ⟨gb149, 1, none⟩ (.int .i64 t147)).setCell ⟨gb149, 2, none⟩ (.int .i64 t148)).heap[gb143]? = some (.cells #[.bool false, .int .i64 0, .int .i64 0, .int .i64 0] 32 (0, 0))) := ⟨by (with_reducible repeat (first | apply blk_drewN | apply blk_drew | apply blk_alloc)); refine blk_far ?_ NB143_149.out _; (with_reducible repeat (first | apply blk_drewN | apply blk_drew | apply blk_alloc)); refine blk_far ?_ NB143_149.out _; (with_reducible repeat (first | apply blk_drewN | apply blk_drew | apply blk_alloc)); refine blk_far ?_ NB143_149.out _; (with_reducible repeat (first | apply blk_drewN | apply blk_drew | apply blk_alloc)); exact BK143.out⟩
 have n2_ : Aside0 ((((w17.setCell ⟨gb149, 0, none⟩ (.bool t146)).setCell ⟨gb149, 1, none⟩ (.int .i64 t147)).setCell ⟨gb149, 2, none⟩ (.int .i64 t148)).heap[gb144]? = some (.cells #[.bool false, .int .i64 0, .int .i64 0, .int .i64 0] 32 (0, 0))) := ⟨by (with_reducible repeat (first | apply blk_drewN | apply blk_drew | apply blk_alloc)); refine blk_far ?_ NB144_149.out _; (with_reducible repeat (first | apply blk_drewN | apply blk_drew | apply blk_alloc)); refine blk_far ?_ NB144_149.out _; (with_reducible repeat (first | apply blk_drewN | apply blk_drew | apply blk_alloc)); refine blk_far ?_ NB144_149.out _; (with_reducible repeat (first | apply blk_drewN | apply blk_drew | apply blk_alloc)); exact BK144.out⟩
 have n3_ : Aside0 ((((w17.setCell ⟨gb149, 0, none⟩ (.bool t146)).setCell ⟨gb149, 1, none⟩ (.int .i64 t147)).setCell ⟨gb149, 2, none⟩ (.int .i64 t148)).heap[gb145]? = some (.cells #[.bool a0_0, .int .i64 a0_1, .int .i64 a0_2, .int .i64 (wrap64 (a0_3 + 1))] 32 (0, 0))) := ⟨by (with_reducible repeat (first | apply blk_drewN | apply blk_drew | apply blk_alloc)); refine blk_far ?_ NB145_149.out _; (with_reducible repeat (first | apply blk_drewN | apply blk_drew | apply blk_alloc)); refine blk_far ?_ NB145_149.out _; (with_reducible repeat (first | apply blk_drewN | apply blk_drew | apply blk_alloc)); refine blk_far ?_ NB145_149.out _; (with_reducible repeat (first | apply blk_drewN | apply blk_drew | apply blk_alloc)); exact BK145.out⟩
 have n4_ : Aside0 ((((w17.setCell ⟨gb149, 0, none⟩ (.bool t146)).setCell ⟨gb149, 1, none⟩ (.int .i64 t147)).setCell ⟨gb149, 2, none⟩ (.int .i64 t148)).heap[gb149]? = some (.cells #[.bool t146, .int .i64 t147, .int .i64 t148] 26 (0, 0))) := ⟨by (with_reducible repeat (first | apply blk_drewN | apply blk_drew | apply blk_alloc)); refine blk_put (cs := #[.bool t146, .int .i64 t147, .int .i64 0]) ?_ 2 _ rfl; (with_reducible repeat (first | apply blk_drewN | apply blk_drew | apply blk_alloc)); refine blk_put (cs := #[.bool t146, .int .i64 0, .int .i64 0]) ?_ 1 _ rfl; (with_reducible repeat (first | apply blk_drewN | apply blk_drew | apply blk_alloc)); refine blk_put (cs := #[.bool false, .int .i64 0, .int .i64 0]) ?_ 0 _ rfl; (with_reducible repeat (first | apply blk_drewN | apply blk_drew | apply blk_alloc)); exact BK149.out⟩
 have n5_ : Aside0 (Below w.heap.size w (((w17.setCell ⟨gb149, 0, none⟩ (.bool t146)).setCell ⟨gb149, 1, none⟩ (.int .i64 t147)).setCell ⟨gb149, 2, none⟩ (.int .i64 t148))) := ⟨by repeat (first | (with_reducible first | exact HB.out | apply below_alloc | apply pw_below_drewN | apply below_drew1 | refine below_set ?_ GE142.out | refine below_set ?_ GE143.out | refine below_set ?_ GE144.out | refine below_set ?_ GE145.out | refine below_set ?_ GE149.out) | exact HB.out)⟩
 (try clear BK142)
 (try clear BK143)
 (try clear BK144)
 (try clear BK145)
 (try clear BK149)
 (try clear HB)
 generalize (((w17.setCell ⟨gb149, 0, none⟩ (.bool t146)).setCell ⟨gb149, 1, none⟩ (.int .i64 t147)).setCell ⟨gb149, 2, none⟩ (.int .i64 t148)) = w23 at n0_ n1_ n2_ n3_ n4_ n5_ ⊢
 have BK142 := n0_
 have BK143 := n1_
 have BK144 := n2_
 have BK145 := n3_
 have BK149 := n4_
 have HB := n5_
 clear n0_ n1_ n2_ n3_ n4_ n5_
 have n0_ := Aside0.mk (blk_drew BK142.out)
 have n1_ := Aside0.mk (blk_drew BK143.out)
 have n2_ := Aside0.mk (blk_drew BK144.out)
 have n3_ := Aside0.mk (blk_drew BK145.out)
 have n4_ := Aside0.mk (blk_drew BK149.out)
 have n5_ := Aside0.mk (below_drew1 HB.out)
 clear BK142
 clear BK143
 clear BK144
 clear BK145
 clear BK149
 clear HB
 have BK142 := n0_
 have BK143 := n1_
 have BK144 := n2_
 have BK145 := n3_
 have BK149 := n4_
 have HB := n5_
 clear n0_ n1_ n2_ n3_ n4_ n5_
 refine start_ (n := 12) (S := fun w' => w'.cell? ⟨gb145, 0, none⟩ = some (.bool a0_0) ∧ w'.cell? ⟨gb145, 1, none⟩ = some (.int .i64 a0_1) ∧ w'.cell? ⟨gb145, 2, none⟩ = some (.int .i64 a0_2) ∧ w'.cell? ⟨gb145, 3, none⟩ = some (.int .i64 (wrap64 (a0_3 + 1))) ∧ w'.cell? ⟨gb149, 0, none⟩ = some (.bool t146) ∧ w'.cell? ⟨gb149, 1, none⟩ = some (.int .i64 t147) ∧ w'.cell? ⟨gb149, 2, none⟩ = some (.int .i64 t148) ∧ w'.cell? ⟨gb142, 0, none⟩ = some (.bool a0_0) ∧ w'.cell? ⟨gb142, 1, none⟩ = some (.int .i64 a0_1) ∧ w'.cell? ⟨gb142, 2, none⟩ = some (.int .i64 a0_2) ∧ w'.cell? ⟨gb142, 3, none⟩ = some (.int .i64 a0_3)) (ds := []) #[false, false, false, false, false, false, false, false, false, false, false, false] (by kernel_rfl) rfl rfl ⟨(blk_cell BK145.out 0).trans rfl, (blk_cell BK145.out 1).trans rfl, (blk_cell BK145.out 2).trans rfl, (blk_cell BK145.out 3).trans rfl, (blk_cell BK149.out 0).trans rfl, (blk_cell BK149.out 1).trans rfl, (blk_cell BK149.out 2).trans rfl, (blk_cell BK142.out 0).trans rfl, (blk_cell BK142.out 1).trans rfl, (blk_cell BK142.out 2).trans rfl, (blk_cell BK142.out 3).trans rfl⟩ (fun hHeld => ?_); refine with_tabW spec_l2Halves.tab3 spec_l2Halves.bits3 (fun HT_ HW_ => ?_)
 generalize w23.drew = w24 at BK142 BK143 BK144 BK145 BK149 HB hHeld ⊢
 refine pure_ (i := 2) (N := some 16) (v := ?_) (a' := ?_) #[false, false, true, false, false, false, false, false, false, false, false, false] rfl rfl (any_of HT_.out (by kernel_rfl)) (fun _ _ _ h => h) (Or.inl ⟨by rfl, ?_⟩) ?_ ?_
 rotate_left
 ·intro w'
  go_simp
  with_reducible rfl
 rotate_left
 ·simp only [put, setIfInBounds_toArray, set_cons_zero, set_cons_succ, i64_w, i32_w]
  rfl
 refine pure_ (i := 6) (N := some 20) (v := ?_) (a' := ?_) #[false, false, true, false, false, false, true, false, false, false, false, false] rfl rfl (any_of HT_.out (by kernel_rfl)) (fun _ _ _ h => h) (Or.inl ⟨by rfl, ?_⟩) ?_ ?_
 rotate_left
 ·intro w'
  go_simp
  with_reducible rfl
 rotate_left
 ·simp only [put, setIfInBounds_toArray, set_cons_zero, set_cons_succ, i64_w, i32_w]
  rfl
 refine take_ (i := 0) (N := some 14) (v := ?_) (a' := ?_) #[true, false, true, false, false, false, true, false, false, false, false, false] rfl rfl (take_ofW HT_.out HW_.out (by kernel_rfl)) (fun _ _ _ h => h) (Or.inl ⟨by rfl, ?_⟩) hHeld ?_ ?_
 rotate_left
 ·rintro w' ⟨s0, s1, s2, s3, s4, s5, s6, s7, s8, s9, s10⟩
  go_simp
  with_reducible rfl
 rotate_left
 ·simp only [put, setIfInBounds_toArray, set_cons_zero, set_cons_succ, i64_w, i32_w]
  rfl
 refine take_ (i := 1) (N := some 15) (v := ?_) (a' := ?_) #[true, true, true, false, false, false, true, false, false, false, false, false] rfl rfl (take_ofW HT_.out HW_.out (by kernel_rfl)) (fun _ _ _ h => h) (Or.inl ⟨by rfl, ?_⟩) hHeld ?_ ?_
 rotate_left
 ·rintro w' ⟨s0, s1, s2, s3, s4, s5, s6, s7, s8, s9, s10⟩
  go_simp
  with_reducible rfl
 rotate_left
 ·simp only [put, setIfInBounds_toArray, set_cons_zero, set_cons_succ, i64_w, i32_w]
  rfl
 refine take_ (i := 3) (N := some 17) (v := ?_) (a' := ?_) #[true, true, true, true, false, false, true, false, false, false, false, false] rfl rfl (take_ofW HT_.out HW_.out (by kernel_rfl)) (fun _ _ _ h => h) (Or.inl ⟨by rfl, ?_⟩) hHeld ?_ ?_
 rotate_left
 ·rintro w' ⟨s0, s1, s2, s3, s4, s5, s6, s7, s8, s9, s10⟩
  go_simp
  with_reducible rfl
 rotate_left
 ·simp only [put, setIfInBounds_toArray, set_cons_zero, set_cons_succ, i64_w, i32_w]
  rfl
 refine pure_ (i := 4) (N := some 18) (v := ?_) (a' := ?_) #[true, true, true, true, true, false, true, false, false, false, false, false] rfl rfl (any_of HT_.out (by kernel_rfl)) (fun _ _ _ h => h) (Or.inl ⟨by rfl, ?_⟩) ?_ ?_
 rotate_left
 ·intro w'
  go_simp
  with_reducible rfl
 rotate_left
 ·simp only [put, setIfInBounds_toArray, set_cons_zero, set_cons_succ, i64_w, i32_w]
  rfl
 refine take_ (i := 7) (N := some 21) (v := ?_) (a' := ?_) #[true, true, true, true, true, false, true, true, false, false, false, false] rfl rfl (take_ofW HT_.out HW_.out (by kernel_rfl)) (fun _ _ _ h => h) (Or.inl ⟨by rfl, ?_⟩) hHeld ?_ ?_
 rotate_left
 ·rintro w' ⟨s0, s1, s2, s3, s4, s5, s6, s7, s8, s9, s10⟩
  go_simp
  with_reducible rfl
 rotate_left
 ·simp only [put, setIfInBounds_toArray, set_cons_zero, set_cons_succ, i64_w, i32_w]
  rfl
 refine pure_ (i := 8) (N := some 22) (v := ?_) (a' := ?_) #[true, true, true, true, true, false, true, true, true, false, false, false] rfl rfl (any_of HT_.out (by kernel_rfl)) (fun _ _ _ h => h) (Or.inl ⟨by rfl, ?_⟩) ?_ ?_
 rotate_left
 ·intro w'
  go_simp
  with_reducible rfl
 rotate_left
 ·simp only [put, setIfInBounds_toArray, set_cons_zero, set_cons_succ, i64_w, i32_w]
  rfl
 refine one_ (i := 5) (N := some 19) #[true, true, true, true, true, true, true, true, true, false, false, false] rfl rfl (one_of HT_.out (by kernel_rfl)) (by decide) (fun K hK => ?_)
 refine goes_ Try.func114 (by kernel_rfl) rfl #[.agg #[.bool t146, .int .i64 t147, .int .i64 t148], .int .i64 (wrap64 (a0_3 + 1))] (by rfl) rfl rfl (by (try simp only [List.map_toArray, List.map_cons, List.map_nil]); first | done | rfl | (simp only [List.length_drop, List.length_take]; rfl)) ?_
 with_reducible refine (spec_l2Mask.calls t146 t147 t148 (wrap64 (a0_3 + 1)) t150 t151 t152 _ A3.out).mono ?_
 rintro e w25 ⟨rfl, hb⟩
 refine ⟨_, rfl, ?_⟩
 have n0_ := Aside0.mk (blk_below (g := gb142) (o := .cells #[.bool a0_0, .int .i64 a0_1, .int .i64 a0_2, .int .i64 a0_3] 32 (0, 0)) (by (with_reducible repeat (first | apply blk_drewN | apply blk_drew | apply blk_alloc)); exact BK142.out) hb)
 have n1_ := Aside0.mk (blk_below (g := gb143) (o := .cells #[.bool false, .int .i64 0, .int .i64 0, .int .i64 0] 32 (0, 0)) (by (with_reducible repeat (first | apply blk_drewN | apply blk_drew | apply blk_alloc)); exact BK143.out) hb)
 have n2_ := Aside0.mk (blk_below (g := gb144) (o := .cells #[.bool false, .int .i64 0, .int .i64 0, .int .i64 0] 32 (0, 0)) (by (with_reducible repeat (first | apply blk_drewN | apply blk_drew | apply blk_alloc)); exact BK144.out) hb)
 have n3_ := Aside0.mk (blk_below (g := gb145) (o := .cells #[.bool a0_0, .int .i64 a0_1, .int .i64 a0_2, .int .i64 (wrap64 (a0_3 + 1))] 32 (0, 0)) (by (with_reducible repeat (first | apply blk_drewN | apply blk_drew | apply blk_alloc)); exact BK145.out) hb)
 have n4_ := Aside0.mk (blk_below (g := gb149) (o := .cells #[.bool t146, .int .i64 t147, .int .i64 t148] 26 (0, 0)) (by (with_reducible repeat (first | apply blk_drewN | apply blk_drew | apply blk_alloc)); exact BK149.out) hb)
 have n5_ := Aside0.mk (below_step (by repeat (first | (with_reducible first | exact HB.out | apply below_alloc | apply pw_below_drewN | apply below_drew1 | refine below_set ?_ GE142.out | refine below_set ?_ GE143.out | refine below_set ?_ GE144.out | refine below_set ?_ GE145.out | refine below_set ?_ GE149.out) | exact HB.out)) hb)
 clear BK142
 clear BK143
 clear BK144
 clear BK145
 clear BK149
 clear HB
 have BK142 := n0_
 have BK143 := n1_
 have BK144 := n2_
 have BK145 := n3_
 have BK149 := n4_
 have HB := n5_
 clear n0_ n1_ n2_ n3_ n4_ n5_
 (try clear hb)
 (try clear hb2)
 (try clear hk)
 (try clear hi)
 refine hK.out _ _ ⟨(blk_cell BK145.out 0).trans rfl, (blk_cell BK145.out 1).trans rfl, (blk_cell BK145.out 2).trans rfl, (blk_cell BK145.out 3).trans rfl, (blk_cell BK149.out 0).trans rfl, (blk_cell BK149.out 1).trans rfl, (blk_cell BK149.out 2).trans rfl, (blk_cell BK142.out 0).trans rfl, (blk_cell BK142.out 1).trans rfl, (blk_cell BK142.out 2).trans rfl, (blk_cell BK142.out 3).trans rfl⟩ (fun hHeld => ?_)
 clear hK K
 refine norm_ (a' := ?_) ?_ ?_
 rotate_left
 ·show Act.put _ (some 19) _ = _
  simp only [put, setIfInBounds_toArray, set_cons_zero, set_cons_succ, i64_w, i32_w]
  rfl
 refine pure_ (i := 9) (N := some 23) (v := ?_) (a' := ?_) #[true, true, true, true, true, true, true, true, true, true, false, false] rfl rfl (any_of HT_.out (by kernel_rfl)) (fun _ _ _ h => h) (Or.inl ⟨by rfl, ?_⟩) ?_ ?_
 rotate_left
 ·intro w'
  go_simp
  with_reducible rfl
 rotate_left
 ·simp only [put, setIfInBounds_toArray, set_cons_zero, set_cons_succ, i64_w, i32_w]
  rfl
 refine one_ (i := 10) (N := none) #[true, true, true, true, true, true, true, true, true, true, true, false] rfl rfl (one_of HT_.out (by kernel_rfl)) (by decide) (fun K hK => ?_)
 have hs26 : w25.cell? ⟨gb143, 0, none⟩ = some (.bool false) := (blk_cell BK143.out 0).trans rfl
 have hfs26 := blk_frozen BK143.out 0
 have hns26_0 := NB142_143.out
 have hns26_2 := NB144_143.out
 have hns26_3 := NB145_143.out
 have hns26_4 := NB149_143.out
 have hms26_0 := NB143_142.out
 have hms26_2 := NB143_144.out
 have hms26_3 := NB143_145.out
 have hms26_4 := NB143_149.out
 have hs27 : w25.cell? ⟨gb143, 1, none⟩ = some (.int .i64 0) := (blk_cell BK143.out 1).trans rfl
 have hfs27 := blk_frozen BK143.out 1
 have hns27_0 := NB142_143.out
 have hns27_2 := NB144_143.out
 have hns27_3 := NB145_143.out
 have hns27_4 := NB149_143.out
 have hms27_0 := NB143_142.out
 have hms27_2 := NB143_144.out
 have hms27_3 := NB143_145.out
 have hms27_4 := NB143_149.out
 have hs28 : w25.cell? ⟨gb143, 2, none⟩ = some (.int .i64 0) := (blk_cell BK143.out 2).trans rfl
 have hfs28 := blk_frozen BK143.out 2
 have hns28_0 := NB142_143.out
 have hns28_2 := NB144_143.out
 have hns28_3 := NB145_143.out
 have hns28_4 := NB149_143.out
 have hms28_0 := NB143_142.out
 have hms28_2 := NB143_144.out
 have hms28_3 := NB143_145.out
 have hms28_4 := NB143_149.out
 have hs29 : w25.cell? ⟨gb143, 3, none⟩ = some (.int .i64 0) := (blk_cell BK143.out 3).trans rfl
 have hfs29 := blk_frozen BK143.out 3
 have hns29_0 := NB142_143.out
 have hns29_2 := NB144_143.out
 have hns29_3 := NB145_143.out
 have hns29_4 := NB149_143.out
 have hms29_0 := NB143_142.out
 have hms29_2 := NB143_144.out
 have hms29_3 := NB143_145.out
 have hms29_4 := NB143_149.out
 refine skip_ (w1 := ?_) (by rfl) rfl ?_ ?_
 rotate_left
 ·go_simp
  rfl
 refine hK.out _ _ ⟨((cell_far (p := ⟨gb143, _, none⟩) NB145_143.out _).trans (((cell_far (p := ⟨gb143, _, none⟩) NB145_143.out _).trans (((cell_far (p := ⟨gb143, _, none⟩) NB145_143.out _).trans (((cell_far (p := ⟨gb143, _, none⟩) NB145_143.out _).trans (hHeld.1)))))))), ((cell_far (p := ⟨gb143, _, none⟩) NB145_143.out _).trans (((cell_far (p := ⟨gb143, _, none⟩) NB145_143.out _).trans (((cell_far (p := ⟨gb143, _, none⟩) NB145_143.out _).trans (((cell_far (p := ⟨gb143, _, none⟩) NB145_143.out _).trans (hHeld.2.1)))))))), ((cell_far (p := ⟨gb143, _, none⟩) NB145_143.out _).trans (((cell_far (p := ⟨gb143, _, none⟩) NB145_143.out _).trans (((cell_far (p := ⟨gb143, _, none⟩) NB145_143.out _).trans (((cell_far (p := ⟨gb143, _, none⟩) NB145_143.out _).trans (hHeld.2.2.1)))))))), ((cell_far (p := ⟨gb143, _, none⟩) NB145_143.out _).trans (((cell_far (p := ⟨gb143, _, none⟩) NB145_143.out _).trans (((cell_far (p := ⟨gb143, _, none⟩) NB145_143.out _).trans (((cell_far (p := ⟨gb143, _, none⟩) NB145_143.out _).trans (hHeld.2.2.2.1)))))))), ((cell_far (p := ⟨gb143, _, none⟩) NB149_143.out _).trans (((cell_far (p := ⟨gb143, _, none⟩) NB149_143.out _).trans (((cell_far (p := ⟨gb143, _, none⟩) NB149_143.out _).trans (((cell_far (p := ⟨gb143, _, none⟩) NB149_143.out _).trans (hHeld.2.2.2.2.1)))))))), ((cell_far (p := ⟨gb143, _, none⟩) NB149_143.out _).trans (((cell_far (p := ⟨gb143, _, none⟩) NB149_143.out _).trans (((cell_far (p := ⟨gb143, _, none⟩) NB149_143.out _).trans (((cell_far (p := ⟨gb143, _, none⟩) NB149_143.out _).trans (hHeld.2.2.2.2.2.1)))))))), ((cell_far (p := ⟨gb143, _, none⟩) NB149_143.out _).trans (((cell_far (p := ⟨gb143, _, none⟩) NB149_143.out _).trans (((cell_far (p := ⟨gb143, _, none⟩) NB149_143.out _).trans (((cell_far (p := ⟨gb143, _, none⟩) NB149_143.out _).trans (hHeld.2.2.2.2.2.2.1)))))))), ((cell_far (p := ⟨gb143, _, none⟩) NB142_143.out _).trans (((cell_far (p := ⟨gb143, _, none⟩) NB142_143.out _).trans (((cell_far (p := ⟨gb143, _, none⟩) NB142_143.out _).trans (((cell_far (p := ⟨gb143, _, none⟩) NB142_143.out _).trans (hHeld.2.2.2.2.2.2.2.1)))))))), ((cell_far (p := ⟨gb143, _, none⟩) NB142_143.out _).trans (((cell_far (p := ⟨gb143, _, none⟩) NB142_143.out _).trans (((cell_far (p := ⟨gb143, _, none⟩) NB142_143.out _).trans (((cell_far (p := ⟨gb143, _, none⟩) NB142_143.out _).trans (hHeld.2.2.2.2.2.2.2.2.1)))))))), ((cell_far (p := ⟨gb143, _, none⟩) NB142_143.out _).trans (((cell_far (p := ⟨gb143, _, none⟩) NB142_143.out _).trans (((cell_far (p := ⟨gb143, _, none⟩) NB142_143.out _).trans (((cell_far (p := ⟨gb143, _, none⟩) NB142_143.out _).trans (hHeld.2.2.2.2.2.2.2.2.2.1)))))))), ((cell_far (p := ⟨gb143, _, none⟩) NB142_143.out _).trans (((cell_far (p := ⟨gb143, _, none⟩) NB142_143.out _).trans (((cell_far (p := ⟨gb143, _, none⟩) NB142_143.out _).trans (((cell_far (p := ⟨gb143, _, none⟩) NB142_143.out _).trans (hHeld.2.2.2.2.2.2.2.2.2.2))))))))⟩ (fun hHeld => ?_)
 clear hK K
 refine one_ (i := 11) (N := none) #[true, true, true, true, true, true, true, true, true, true, true, true] rfl rfl (one_of HT_.out (by kernel_rfl)) (by decide) (fun K hK => ?_)
 have hs30 : w25.cell? ⟨gb144, 0, none⟩ = some (.bool false) := (blk_cell BK144.out 0).trans rfl
 have hfs30 := blk_frozen BK144.out 0
 have hns30_0 := NB142_144.out
 have hns30_1 := NB143_144.out
 have hns30_3 := NB145_144.out
 have hns30_4 := NB149_144.out
 have hms30_0 := NB144_142.out
 have hms30_1 := NB144_143.out
 have hms30_3 := NB144_145.out
 have hms30_4 := NB144_149.out
 have hs31 : w25.cell? ⟨gb144, 1, none⟩ = some (.int .i64 0) := (blk_cell BK144.out 1).trans rfl
 have hfs31 := blk_frozen BK144.out 1
 have hns31_0 := NB142_144.out
 have hns31_1 := NB143_144.out
 have hns31_3 := NB145_144.out
 have hns31_4 := NB149_144.out
 have hms31_0 := NB144_142.out
 have hms31_1 := NB144_143.out
 have hms31_3 := NB144_145.out
 have hms31_4 := NB144_149.out
 have hs32 : w25.cell? ⟨gb144, 2, none⟩ = some (.int .i64 0) := (blk_cell BK144.out 2).trans rfl
 have hfs32 := blk_frozen BK144.out 2
 have hns32_0 := NB142_144.out
 have hns32_1 := NB143_144.out
 have hns32_3 := NB145_144.out
 have hns32_4 := NB149_144.out
 have hms32_0 := NB144_142.out
 have hms32_1 := NB144_143.out
 have hms32_3 := NB144_145.out
 have hms32_4 := NB144_149.out
 have hs33 : w25.cell? ⟨gb144, 3, none⟩ = some (.int .i64 0) := (blk_cell BK144.out 3).trans rfl
 have hfs33 := blk_frozen BK144.out 3
 have hns33_0 := NB142_144.out
 have hns33_1 := NB143_144.out
 have hns33_3 := NB145_144.out
 have hns33_4 := NB149_144.out
 have hms33_0 := NB144_142.out
 have hms33_1 := NB144_143.out
 have hms33_3 := NB144_145.out
 have hms33_4 := NB144_149.out
 refine skip_ (w1 := ?_) (by rfl) rfl ?_ ?_
 rotate_left
 ·go_simp
  rfl
 refine hK.out _ _ ⟨((cell_far (p := ⟨gb144, _, none⟩) NB145_144.out _).trans (((cell_far (p := ⟨gb144, _, none⟩) NB145_144.out _).trans (((cell_far (p := ⟨gb144, _, none⟩) NB145_144.out _).trans (((cell_far (p := ⟨gb144, _, none⟩) NB145_144.out _).trans (hHeld.1)))))))), ((cell_far (p := ⟨gb144, _, none⟩) NB145_144.out _).trans (((cell_far (p := ⟨gb144, _, none⟩) NB145_144.out _).trans (((cell_far (p := ⟨gb144, _, none⟩) NB145_144.out _).trans (((cell_far (p := ⟨gb144, _, none⟩) NB145_144.out _).trans (hHeld.2.1)))))))), ((cell_far (p := ⟨gb144, _, none⟩) NB145_144.out _).trans (((cell_far (p := ⟨gb144, _, none⟩) NB145_144.out _).trans (((cell_far (p := ⟨gb144, _, none⟩) NB145_144.out _).trans (((cell_far (p := ⟨gb144, _, none⟩) NB145_144.out _).trans (hHeld.2.2.1)))))))), ((cell_far (p := ⟨gb144, _, none⟩) NB145_144.out _).trans (((cell_far (p := ⟨gb144, _, none⟩) NB145_144.out _).trans (((cell_far (p := ⟨gb144, _, none⟩) NB145_144.out _).trans (((cell_far (p := ⟨gb144, _, none⟩) NB145_144.out _).trans (hHeld.2.2.2.1)))))))), ((cell_far (p := ⟨gb144, _, none⟩) NB149_144.out _).trans (((cell_far (p := ⟨gb144, _, none⟩) NB149_144.out _).trans (((cell_far (p := ⟨gb144, _, none⟩) NB149_144.out _).trans (((cell_far (p := ⟨gb144, _, none⟩) NB149_144.out _).trans (hHeld.2.2.2.2.1)))))))), ((cell_far (p := ⟨gb144, _, none⟩) NB149_144.out _).trans (((cell_far (p := ⟨gb144, _, none⟩) NB149_144.out _).trans (((cell_far (p := ⟨gb144, _, none⟩) NB149_144.out _).trans (((cell_far (p := ⟨gb144, _, none⟩) NB149_144.out _).trans (hHeld.2.2.2.2.2.1)))))))), ((cell_far (p := ⟨gb144, _, none⟩) NB149_144.out _).trans (((cell_far (p := ⟨gb144, _, none⟩) NB149_144.out _).trans (((cell_far (p := ⟨gb144, _, none⟩) NB149_144.out _).trans (((cell_far (p := ⟨gb144, _, none⟩) NB149_144.out _).trans (hHeld.2.2.2.2.2.2.1)))))))), ((cell_far (p := ⟨gb144, _, none⟩) NB142_144.out _).trans (((cell_far (p := ⟨gb144, _, none⟩) NB142_144.out _).trans (((cell_far (p := ⟨gb144, _, none⟩) NB142_144.out _).trans (((cell_far (p := ⟨gb144, _, none⟩) NB142_144.out _).trans (hHeld.2.2.2.2.2.2.2.1)))))))), ((cell_far (p := ⟨gb144, _, none⟩) NB142_144.out _).trans (((cell_far (p := ⟨gb144, _, none⟩) NB142_144.out _).trans (((cell_far (p := ⟨gb144, _, none⟩) NB142_144.out _).trans (((cell_far (p := ⟨gb144, _, none⟩) NB142_144.out _).trans (hHeld.2.2.2.2.2.2.2.2.1)))))))), ((cell_far (p := ⟨gb144, _, none⟩) NB142_144.out _).trans (((cell_far (p := ⟨gb144, _, none⟩) NB142_144.out _).trans (((cell_far (p := ⟨gb144, _, none⟩) NB142_144.out _).trans (((cell_far (p := ⟨gb144, _, none⟩) NB142_144.out _).trans (hHeld.2.2.2.2.2.2.2.2.2.1)))))))), ((cell_far (p := ⟨gb144, _, none⟩) NB142_144.out _).trans (((cell_far (p := ⟨gb144, _, none⟩) NB142_144.out _).trans (((cell_far (p := ⟨gb144, _, none⟩) NB142_144.out _).trans (((cell_far (p := ⟨gb144, _, none⟩) NB142_144.out _).trans (hHeld.2.2.2.2.2.2.2.2.2.2))))))))⟩ (fun hHeld => ?_)
 clear hK K
 refine done_ (done_of HT_.out (by kernel_rfl)) ?_
 try go_wp2
 refine bodyPost_ret (results_cc rfl _ _ gb143 gb144 32 32 #[.bool a0_0, .int .i64 a0_1, .int .i64 a0_2, .int .i64 (wrap64 (a0_3 + 1))] #[.bool t150, .int .i64 t151, .int .i64 t152, .int .i64 (wrap64 (a0_3 + 1))] (0, 0) (0, 0) _ _ rfl (by (with_reducible repeat (first | apply blk_drewN | apply blk_drew | apply blk_alloc)); refine blk_far ?_ NB143_144.out _; (with_reducible repeat (first | apply blk_drewN | apply blk_drew | apply blk_alloc)); refine blk_far ?_ NB143_144.out _; (with_reducible repeat (first | apply blk_drewN | apply blk_drew | apply blk_alloc)); refine blk_far ?_ NB143_144.out _; (with_reducible repeat (first | apply blk_drewN | apply blk_drew | apply blk_alloc)); refine blk_far ?_ NB143_144.out _; (with_reducible repeat (first | apply blk_drewN | apply blk_drew | apply blk_alloc)); refine blk_put (cs := #[.bool a0_0, .int .i64 a0_1, .int .i64 a0_2, .int .i64 0]) ?_ 3 _ rfl; (with_reducible repeat (first | apply blk_drewN | apply blk_drew | apply blk_alloc)); refine blk_put (cs := #[.bool a0_0, .int .i64 a0_1, .int .i64 0, .int .i64 0]) ?_ 2 _ rfl; (with_reducible repeat (first | apply blk_drewN | apply blk_drew | apply blk_alloc)); refine blk_put (cs := #[.bool a0_0, .int .i64 0, .int .i64 0, .int .i64 0]) ?_ 1 _ rfl; (with_reducible repeat (first | apply blk_drewN | apply blk_drew | apply blk_alloc)); refine blk_put (cs := #[.bool false, .int .i64 0, .int .i64 0, .int .i64 0]) ?_ 0 _ rfl; (with_reducible repeat (first | apply blk_drewN | apply blk_drew | apply blk_alloc)); exact BK143.out) Try.underlying32 rfl (by kernel_rfl) rfl (by (with_reducible repeat (first | apply blk_drewN | apply blk_drew | apply blk_alloc)); refine blk_put (cs := #[.bool t150, .int .i64 t151, .int .i64 t152, .int .i64 0]) ?_ 3 _ rfl; (with_reducible repeat (first | apply blk_drewN | apply blk_drew | apply blk_alloc)); refine blk_put (cs := #[.bool t150, .int .i64 t151, .int .i64 0, .int .i64 0]) ?_ 2 _ rfl; (with_reducible repeat (first | apply blk_drewN | apply blk_drew | apply blk_alloc)); refine blk_put (cs := #[.bool t150, .int .i64 0, .int .i64 0, .int .i64 0]) ?_ 1 _ rfl; (with_reducible repeat (first | apply blk_drewN | apply blk_drew | apply blk_alloc)); refine blk_put (cs := #[.bool false, .int .i64 0, .int .i64 0, .int .i64 0]) ?_ 0 _ rfl; (with_reducible repeat (first | apply blk_drewN | apply blk_drew | apply blk_alloc)); refine blk_far ?_ NB144_143.out _; (with_reducible repeat (first | apply blk_drewN | apply blk_drew | apply blk_alloc)); refine blk_far ?_ NB144_143.out _; (with_reducible repeat (first | apply blk_drewN | apply blk_drew | apply blk_alloc)); refine blk_far ?_ NB144_143.out _; (with_reducible repeat (first | apply blk_drewN | apply blk_drew | apply blk_alloc)); refine blk_far ?_ NB144_143.out _; (with_reducible repeat (first | apply blk_drewN | apply blk_drew | apply blk_alloc)); exact BK144.out) Try.underlying32 rfl (by kernel_rfl)) rfl ?_
 exact ⟨by first | rfl | (simp [errW_none, errW_some] <;> rfl) | (simp [*, errW_none, errW_some] <;> rfl), by repeat (first | (with_reducible first | exact HB.out | apply below_alloc | apply pw_below_drewN | apply below_drew1 | refine below_set ?_ GE142.out | refine below_set ?_ GE143.out | refine below_set ?_ GE144.out | refine below_set ?_ GE145.out | refine below_set ?_ GE149.out) | exact HB.out)⟩

end Go.Proofs.Ytigmadccchofiaa.QFnExactFirstFree
