-- Written by a program of this session (wip/myprint.py); Lean checks it.
import Derived.Test.YtigmadccchofiaaQFnExactFirstFreex0
import Derived.Test.YtigmadccchofiaaQFnExactFirstFreex2
import Derived.Test.YtigmadccchofiaaQFnExactFirstFreex9
import Derived.Test.YtigmadccchofiaaQFnExactFirstFreex14
namespace Go.Proofs.Ytigmadccchofiaa.QFnExactFirstFree
open Go.RowKit Go.Proofs.YtigmadccchofiaaW.PrintWords Go.Proofs.YtigmadccchofiaaW.PrintLast Go.Proofs.YtigmadccchofiaaW.PrintMore
open Act (put)
open List (setIfInBounds_toArray set_cons_zero set_cons_succ)
attribute [local go_sem] max2_int min2_int max_two min_two max_three min_three max_four min_four   -- for this text's walks alone
set_option linter.unusedVariables false
set_option linter.unusedSimpArgs false

attribute [local go_sem] isSome_setCell
/-! ### laws_eqPrefixS: function 57 -/
def laws_eqPrefixS.l0 : Nat → List (S32) → List (S32) → Int → Option (Bool)
 | 0, _, _, _ => none
 | k + 1, x0, x1, x5 => if x5 < (x0.length : Int) then (if 0 ≤ x5 then (if x5 < (x1.length : Int) then ((laws_eqPrefix.f ((rd_T32 x0 x5).f0.f0) ((rd_T32 x0 x5).f0.f1) ((rd_T32 x0 x5).f0.f2) ((rd_T32 x0 x5).f1) ((rd_T32 x1 x5).f0.f0) ((rd_T32 x1 x5).f0.f1) ((rd_T32 x1 x5).f0.f2) ((rd_T32 x1 x5).f1)).bind fun t306 => (if t306 = true then (laws_eqPrefixS.l0 k x0 x1 (wrap64 (x5 + 1))) else (some false))) else (none)) else (none)) else (some true)
def laws_eqPrefixS.f (k : Nat) (l0 : List (S32)) (l1 : List (S32)) : Option (Bool) := if (l0.length : Int) = (l1.length : Int) then (laws_eqPrefixS.l0 k l0 l1 0) else (some false)
theorem laws_eqPrefixS.mono_l : ∀ k, (∀ y0 y1 y2, LeO (laws_eqPrefixS.l0 k y0 y1 y2) (laws_eqPrefixS.l0 (k + 1) y0 y1 y2))
 | 0 => fun _ _ _ r h => by simp [laws_eqPrefixS.l0] at h
 | k + 1 => by
  have ih0 := laws_eqPrefixS.mono_l k
  ·intro y0 y1 y2
   unfold laws_eqPrefixS.l0
   repeat' first
   | (with_reducible exact ih0 _ _ _)
   | (with_reducible exact LeO.refl _)
   | (with_reducible exact LeO.none _)
   | (with_reducible refine LeO.ite ?_ ?_)
   | (with_reducible refine LeO.bind ?_ (fun _ => ?_))
   | exact ih0 _ _ _
   | exact LeO.none _
   | refine LeO.ite ?_ ?_
   | refine LeO.bind ?_ (fun _ => ?_)
theorem laws_eqPrefixS.mono : ∀ a0 a1 k, LeO (laws_eqPrefixS.f k a0 a1) (laws_eqPrefixS.f (k + 1) a0 a1) := by
 intro a0 a1 k
 have ih0 := laws_eqPrefixS.mono_l k
 unfold laws_eqPrefixS.f
 repeat' first
   | (with_reducible exact ih0 _ _ _)
   | (with_reducible exact LeO.refl _)
   | (with_reducible exact LeO.none _)
   | (with_reducible refine LeO.ite ?_ ?_)
   | (with_reducible refine LeO.bind ?_ (fun _ => ?_))
   | exact ih0 _ _ _
   | exact LeO.none _
   | refine LeO.ite ?_ ?_
   | refine LeO.bind ?_ (fun _ => ?_)
def laws_eqPrefixS.T6 : Bool × List (List Nat × List Nat) := (true, [([], []), ([], []), ([0, 1], [0, 1]), ([2], [2]), ([], []), ([], []), ([4, 5], [4, 5]), ([6], [6]), ([3, 7], [3, 7]), ([8], [8])])
def laws_eqPrefixS.B6 : List Nat := [0, 0, 3, 7, 0, 0, 48, 112, 255, 511]
theorem laws_eqPrefixS.tab6 : rtab .any (opsOf Try.f57 6) = laws_eqPrefixS.T6 := by kernel_rfl
theorem laws_eqPrefixS.bits6 : waitsOk laws_eqPrefixS.T6.2 laws_eqPrefixS.B6 = true := by kernel_rfl
set_option maxHeartbeats 8000000 in
set_option maxRecDepth 100000 in
theorem laws_eqPrefixS.calls (k : Nat) (A0 : Option Addr) (c0 : Nat) (l0 : List (S32)) (A1 : Option Addr) (c1 : Nat) (l1 : List (S32)) (r : Bool) (w : World) (hr0 : Kd.C k32 w A0 l0.length l0) (hc0 : l0.length ≤ c0) (hr1 : Kd.C k32 w A1 l1.length l1) (hc1 : l1.length ≤ c1) (h : laws_eqPrefixS.f k l0 l1 = some r) :
  Calls Try.prog 57 #[.slice A0 l0.length c0, .slice A1 l1.length c1] w fun e w' => e = .returned (.bool r) ∧ Below w.heap.size w w' := by
 have hu32 := Try.underlying32
 have HR0 := Aside0.mk hr0
 have HC0 := Aside0.mk hc0
 clear hr0 hc0
 have HR1 := Aside0.mk hr1
 have HC1 := Aside0.mk hc1
 clear hr1 hc1
 have HB := Aside0.mk (Below.refl w.heap.size w)
 have H : (if (l0.length : Int) = (l1.length : Int) then (laws_eqPrefixS.l0 k l0 l1 0) else (some false)) = some r := h
 clear h
 by_cases c3 : (l0.length : Int) = (l1.length : Int)
 ·rw [if_pos c3] at H
  have c3b0 : ((l0.length : Int) == (l1.length : Int)) = true := beq_iff_eq.mpr c3
  have c3b1 : ((l0.length : Int) != (l1.length : Int)) = false := bne_eq_false_iff_eq.mpr c3
  have c3b2 : (l0.length == l1.length) = true := by first | simpa using c3 | (simp at c3 ⊢; omega)
  clear c3
  have H' := Aside0.mk H
  clear H
  go_enter Try.func57, Try.ntmps57
  go_wp2
  go_loopg [5] k (fun kq v5 w' => ∃ (x5_1 : Int), v5 = .int .i64 x5_1 ∧ Aside0 (laws_eqPrefixS.l0 kq l0 l1 x5_1 = some r) ∧ Aside0 (kq ≤ k) ∧ Aside0 (Below w.heap.size w w'))
  case atStart => exact ⟨(0), (by first | rfl | (simp; done) | (simp [*]; done)), H', ⟨Nat.le_refl _⟩, ⟨by repeat (first | (with_reducible first | exact HB.out | apply below_alloc | apply pw_below_drewN | apply below_drew1) | exact HB.out)⟩⟩
  case round =>
   clear H'
   try clear c1
   try clear p2
   try clear c3
   try clear c3b0
   try clear c3b1
   try clear c3b2
   obtain ⟨x5_1, rfl, HA, HK1, HB⟩ := hrel
   cases gk with
   | zero => exact absurd HA.out (by simp [laws_eqPrefixS.l0])
   | succ k1 =>
    have H := HA.out
    clear HA
    simp only [laws_eqPrefixS.l0] at H
    by_cases c4 : x5_1 < (l0.length : Int)
    ·rw [if_pos c4] at H
     have c4b0 : decide (x5_1 < (l0.length : Int)) = true := decide_eq_true c4
     clear c4
     by_cases c5 : 0 ≤ x5_1
     ·rw [if_pos c5] at H
      have c5b0 : decide (0 ≤ x5_1) = true := decide_eq_true c5
      clear c5
      by_cases c6 : x5_1 < (l1.length : Int)
      ·rw [if_pos c6] at H
       have c6b0 : decide (x5_1 < (l1.length : Int)) = true := decide_eq_true c6
       clear c6
       replace H := Option.bind_eq_some_iff.mp H
       obtain ⟨t306, A70, H⟩ := H
       replace H : (if t306 = true then (laws_eqPrefixS.l0 k1 l0 l1 (wrap64 (x5_1 + 1))) else (some false)) = some r := H
       have A7 := Aside0.mk A70
       clear A70
       by_cases c8 : t306 = true
       ·subst c8
        have H1 : (laws_eqPrefixS.l0 k1 l0 l1 (wrap64 (x5_1 + 1))) = some r := by rw [if_pos rfl] at H; exact H
        clear H
        have H := H1
        clear H1
        have H' := Aside0.mk H
        clear H
        try go_wp2
        have n0_ := Aside0.mk (below_drew1 HB.out)
        clear HB
        have HB := n0_
        clear n0_
        have p304 : 0 ≤ (x5_1 : Int) := of_decide_eq_true (by first | (with_reducible assumption) | assumption)
        have q304 : x5_1 < (l0.length : Int) := of_decide_eq_true (by first | (with_reducible assumption) | assumption)
        obtain ⟨ad304, e304, hx304_0, hx304_1, hx304_2, hx304_3⟩ := at_T32 HR0.out x5_1 p304 q304
        have hw304_3 := hx304_3
        have hw304_2 := hx304_2
        have hw304_1 := hx304_1
        have hw304_0 := hx304_0
        cases e304
        replace hx304_0 := (HB.out.cell (World.block_lt_of_cell? w _ hx304_0)).trans hx304_0
        replace hx304_1 := (HB.out.cell (World.block_lt_of_cell? w _ hx304_1)).trans hx304_1
        replace hx304_2 := (HB.out.cell (World.block_lt_of_cell? w _ hx304_2)).trans hx304_2
        replace hx304_3 := (HB.out.cell (World.block_lt_of_cell? w _ hx304_3)).trans hx304_3
        replace p304 := eq_true p304
        replace q304 := eq_true q304
        have p305 : 0 ≤ (x5_1 : Int) := of_decide_eq_true (by first | (with_reducible assumption) | assumption)
        have q305 : x5_1 < (l1.length : Int) := of_decide_eq_true (by first | (with_reducible assumption) | assumption)
        obtain ⟨ad305, e305, hx305_0, hx305_1, hx305_2, hx305_3⟩ := at_T32 HR1.out x5_1 p305 q305
        have hw305_3 := hx305_3
        have hw305_2 := hx305_2
        have hw305_1 := hx305_1
        have hw305_0 := hx305_0
        cases e305
        replace hx305_0 := (HB.out.cell (World.block_lt_of_cell? w _ hx305_0)).trans hx305_0
        replace hx305_1 := (HB.out.cell (World.block_lt_of_cell? w _ hx305_1)).trans hx305_1
        replace hx305_2 := (HB.out.cell (World.block_lt_of_cell? w _ hx305_2)).trans hx305_2
        replace hx305_3 := (HB.out.cell (World.block_lt_of_cell? w _ hx305_3)).trans hx305_3
        replace p305 := eq_true p305
        replace q305 := eq_true q305
        refine start_ (n := 10) (S := fun w' => w'.cell? (ad304.add ((x5_1).toNat * 4)) = some (.bool ((rd_T32 l0 x5_1).f0.f0)) ∧ w'.cell? ⟨(ad304.add ((x5_1).toNat * 4)).block, (ad304.add ((x5_1).toNat * 4)).off + 1, none⟩ = some (.int .i64 ((rd_T32 l0 x5_1).f0.f1)) ∧ w'.cell? ⟨(ad304.add ((x5_1).toNat * 4)).block, (ad304.add ((x5_1).toNat * 4)).off + 2, none⟩ = some (.int .i64 ((rd_T32 l0 x5_1).f0.f2)) ∧ w'.cell? ⟨(ad304.add ((x5_1).toNat * 4)).block, (ad304.add ((x5_1).toNat * 4)).off + 3, none⟩ = some (.int .i64 ((rd_T32 l0 x5_1).f1)) ∧ w'.cell? (ad305.add ((x5_1).toNat * 4)) = some (.bool ((rd_T32 l1 x5_1).f0.f0)) ∧ w'.cell? ⟨(ad305.add ((x5_1).toNat * 4)).block, (ad305.add ((x5_1).toNat * 4)).off + 1, none⟩ = some (.int .i64 ((rd_T32 l1 x5_1).f0.f1)) ∧ w'.cell? ⟨(ad305.add ((x5_1).toNat * 4)).block, (ad305.add ((x5_1).toNat * 4)).off + 2, none⟩ = some (.int .i64 ((rd_T32 l1 x5_1).f0.f2)) ∧ w'.cell? ⟨(ad305.add ((x5_1).toNat * 4)).block, (ad305.add ((x5_1).toNat * 4)).off + 3, none⟩ = some (.int .i64 ((rd_T32 l1 x5_1).f1))) (ds := []) #[false, false, false, false, false, false, false, false, false, false] (by kernel_rfl) rfl rfl ⟨((HB.out.cell (World.block_lt_of_cell? w _ hw304_0)).trans hw304_0), ((HB.out.cell (World.block_lt_of_cell? w _ hw304_1)).trans hw304_1), ((HB.out.cell (World.block_lt_of_cell? w _ hw304_2)).trans hw304_2), ((HB.out.cell (World.block_lt_of_cell? w _ hw304_3)).trans hw304_3), ((HB.out.cell (World.block_lt_of_cell? w _ hw305_0)).trans hw305_0), ((HB.out.cell (World.block_lt_of_cell? w _ hw305_1)).trans hw305_1), ((HB.out.cell (World.block_lt_of_cell? w _ hw305_2)).trans hw305_2), ((HB.out.cell (World.block_lt_of_cell? w _ hw305_3)).trans hw305_3)⟩ (fun hHeld => ?_); refine with_tabW laws_eqPrefixS.tab6 laws_eqPrefixS.bits6 (fun HT_ HW_ => ?_)
        generalize wr.drew = w9 at HB hx304_0 hx304_1 hx304_2 hx304_3 hx305_0 hx305_1 hx305_2 hx305_3 hHeld ⊢
        refine pure_ (i := 0) (N := some 17) (v := ?_) (a' := ?_) #[true, false, false, false, false, false, false, false, false, false] rfl rfl (any_of HT_.out (by kernel_rfl)) (fun _ _ _ h => h) (Or.inl ⟨by rfl, ?_⟩) ?_ ?_
        rotate_left
        ·intro w'
         go_simp
         with_reducible rfl
        rotate_left
        ·simp only [put, setIfInBounds_toArray, set_cons_zero, set_cons_succ, i64_w, i32_w]
         rfl
        refine pure_ (i := 1) (N := some 18) (v := ?_) (a' := ?_) #[true, true, false, false, false, false, false, false, false, false] rfl rfl (any_of HT_.out (by kernel_rfl)) (fun _ _ _ h => h) (Or.inl ⟨by rfl, ?_⟩) ?_ ?_
        rotate_left
        ·intro w'
         go_simp
         with_reducible rfl
        rotate_left
        ·simp only [put, setIfInBounds_toArray, set_cons_zero, set_cons_succ, i64_w, i32_w]
         rfl
        refine pure_ (i := 2) (N := some 19) (v := ?_) (a' := ?_) #[true, true, true, false, false, false, false, false, false, false] rfl rfl (any_of HT_.out (by kernel_rfl)) (fun _ _ _ h => h) (Or.inl ⟨by rfl, ?_⟩) ?_ ?_
        rotate_left
        ·intro w'
         go_simp
         with_reducible rfl
        rotate_left
        ·simp only [put, setIfInBounds_toArray, set_cons_zero, set_cons_succ, i64_w, i32_w]
         rfl
        refine pure_ (i := 4) (N := some 21) (v := ?_) (a' := ?_) #[true, true, true, false, true, false, false, false, false, false] rfl rfl (any_of HT_.out (by kernel_rfl)) (fun _ _ _ h => h) (Or.inl ⟨by rfl, ?_⟩) ?_ ?_
        rotate_left
        ·intro w'
         go_simp
         with_reducible rfl
        rotate_left
        ·simp only [put, setIfInBounds_toArray, set_cons_zero, set_cons_succ, i64_w, i32_w]
         rfl
        refine pure_ (i := 5) (N := some 22) (v := ?_) (a' := ?_) #[true, true, true, false, true, true, false, false, false, false] rfl rfl (any_of HT_.out (by kernel_rfl)) (fun _ _ _ h => h) (Or.inl ⟨by rfl, ?_⟩) ?_ ?_
        rotate_left
        ·intro w'
         go_simp
         with_reducible rfl
        rotate_left
        ·simp only [put, setIfInBounds_toArray, set_cons_zero, set_cons_succ, i64_w, i32_w]
         rfl
        refine pure_ (i := 6) (N := some 23) (v := ?_) (a' := ?_) #[true, true, true, false, true, true, true, false, false, false] rfl rfl (any_of HT_.out (by kernel_rfl)) (fun _ _ _ h => h) (Or.inl ⟨by rfl, ?_⟩) ?_ ?_
        rotate_left
        ·intro w'
         go_simp
         with_reducible rfl
        rotate_left
        ·simp only [put, setIfInBounds_toArray, set_cons_zero, set_cons_succ, i64_w, i32_w]
         rfl
        refine take_ (i := 3) (N := some 20) (v := ?_) (a' := ?_) #[true, true, true, true, true, true, true, false, false, false] rfl rfl (take_ofW HT_.out HW_.out (by kernel_rfl)) (fun _ _ _ h => h) (Or.inl ⟨by rfl, ?_⟩) hHeld ?_ ?_
        rotate_left
        ·rintro w' ⟨s0, s1, s2, s3, s4, s5, s6, s7⟩
         go_simp
         with_reducible rfl
        rotate_left
        ·simp only [put, setIfInBounds_toArray, set_cons_zero, set_cons_succ, i64_w, i32_w]
         rfl
        refine take_ (i := 7) (N := some 24) (v := ?_) (a' := ?_) #[true, true, true, true, true, true, true, true, false, false] rfl rfl (take_ofW HT_.out HW_.out (by kernel_rfl)) (fun _ _ _ h => h) (Or.inl ⟨by rfl, ?_⟩) hHeld ?_ ?_
        rotate_left
        ·rintro w' ⟨s0, s1, s2, s3, s4, s5, s6, s7⟩
         go_simp
         with_reducible rfl
        rotate_left
        ·simp only [put, setIfInBounds_toArray, set_cons_zero, set_cons_succ, i64_w, i32_w]
         rfl
        refine one_ (i := 8) (N := some 25) #[true, true, true, true, true, true, true, true, true, false] rfl rfl (one_of HT_.out (by kernel_rfl)) (by decide) (fun K hK => ?_)
        refine goes_ Try.func21 (by kernel_rfl) rfl #[.agg #[.bool ((rd_T32 l0 x5_1).f0.f0), .int .i64 ((rd_T32 l0 x5_1).f0.f1), .int .i64 ((rd_T32 l0 x5_1).f0.f2), .int .i64 ((rd_T32 l0 x5_1).f1)], .agg #[.bool ((rd_T32 l1 x5_1).f0.f0), .int .i64 ((rd_T32 l1 x5_1).f0.f1), .int .i64 ((rd_T32 l1 x5_1).f0.f2), .int .i64 ((rd_T32 l1 x5_1).f1)]] (by rfl) rfl rfl (by (try simp only [List.map_toArray, List.map_cons, List.map_nil]); first | done | rfl | (simp only [List.length_drop, List.length_take]; rfl)) ?_
        with_reducible refine (laws_eqPrefix.calls ((rd_T32 l0 x5_1).f0.f0) ((rd_T32 l0 x5_1).f0.f1) ((rd_T32 l0 x5_1).f0.f2) ((rd_T32 l0 x5_1).f1) ((rd_T32 l1 x5_1).f0.f0) ((rd_T32 l1 x5_1).f0.f1) ((rd_T32 l1 x5_1).f0.f2) ((rd_T32 l1 x5_1).f1) true _ A7.out).mono ?_
        rintro e w10 ⟨rfl, hb⟩
        refine ⟨_, rfl, ?_⟩
        have n0_ := Aside0.mk (below_step (by repeat (first | (with_reducible first | exact HB.out | apply below_alloc | apply pw_below_drewN | apply below_drew1) | exact HB.out)) hb)
        clear HB
        have HB := n0_
        clear n0_
        (try clear hb)
        (try clear hb2)
        (try clear hk)
        (try clear hi)
        refine hK.out _ _ ⟨((HB.out.cell (World.block_lt_of_cell? w _ hw304_0)).trans hw304_0), ((HB.out.cell (World.block_lt_of_cell? w _ hw304_1)).trans hw304_1), ((HB.out.cell (World.block_lt_of_cell? w _ hw304_2)).trans hw304_2), ((HB.out.cell (World.block_lt_of_cell? w _ hw304_3)).trans hw304_3), ((HB.out.cell (World.block_lt_of_cell? w _ hw305_0)).trans hw305_0), ((HB.out.cell (World.block_lt_of_cell? w _ hw305_1)).trans hw305_1), ((HB.out.cell (World.block_lt_of_cell? w _ hw305_2)).trans hw305_2), ((HB.out.cell (World.block_lt_of_cell? w _ hw305_3)).trans hw305_3)⟩ (fun hHeld => ?_)
        clear hK K
        refine norm_ (a' := ?_) ?_ ?_
        rotate_left
        ·show Act.put _ (some 25) _ = _
         simp only [put, setIfInBounds_toArray, set_cons_zero, set_cons_succ, i64_w, i32_w]
         rfl
        refine pure_ (i := 9) (N := some 26) (v := ?_) (a' := ?_) #[true, true, true, true, true, true, true, true, true, true] rfl rfl (any_of HT_.out (by kernel_rfl)) (fun _ _ _ h => h) (Or.inl ⟨by rfl, ?_⟩) ?_ ?_
        rotate_left
        ·intro w'
         go_simp
         with_reducible rfl
        rotate_left
        ·simp only [put, setIfInBounds_toArray, set_cons_zero, set_cons_succ, i64_w, i32_w]
         rfl
        refine done_ (done_of HT_.out (by kernel_rfl)) ?_
        try go_wp2
        go_roundg k1
        case measure => have := HK1.out; omega
        case rel => exact ⟨(wrap64 (x5_1 + 1)), (by first | rfl | (simp; done) | (simp [*]; done)), H', ⟨by have := HK1.out; omega⟩, ⟨by repeat (first | (with_reducible first | exact HB.out | apply below_alloc | apply pw_below_drewN | apply below_drew1) | exact HB.out)⟩⟩
       ·replace c8 := Bool.eq_false_iff.mpr c8
        subst c8
        have H1 : (some false) = some r := by rw [if_neg (show ¬ (false = true) by decide)] at H; exact H
        clear H
        have H := H1
        clear H1
        obtain rfl := Option.some.inj H
        try go_wp2
        have n0_ := Aside0.mk (below_drew1 HB.out)
        clear HB
        have HB := n0_
        clear n0_
        have p304 : 0 ≤ (x5_1 : Int) := of_decide_eq_true (by first | (with_reducible assumption) | assumption)
        have q304 : x5_1 < (l0.length : Int) := of_decide_eq_true (by first | (with_reducible assumption) | assumption)
        obtain ⟨ad304, e304, hx304_0, hx304_1, hx304_2, hx304_3⟩ := at_T32 HR0.out x5_1 p304 q304
        have hw304_3 := hx304_3
        have hw304_2 := hx304_2
        have hw304_1 := hx304_1
        have hw304_0 := hx304_0
        cases e304
        replace hx304_0 := (HB.out.cell (World.block_lt_of_cell? w _ hx304_0)).trans hx304_0
        replace hx304_1 := (HB.out.cell (World.block_lt_of_cell? w _ hx304_1)).trans hx304_1
        replace hx304_2 := (HB.out.cell (World.block_lt_of_cell? w _ hx304_2)).trans hx304_2
        replace hx304_3 := (HB.out.cell (World.block_lt_of_cell? w _ hx304_3)).trans hx304_3
        replace p304 := eq_true p304
        replace q304 := eq_true q304
        have p305 : 0 ≤ (x5_1 : Int) := of_decide_eq_true (by first | (with_reducible assumption) | assumption)
        have q305 : x5_1 < (l1.length : Int) := of_decide_eq_true (by first | (with_reducible assumption) | assumption)
        obtain ⟨ad305, e305, hx305_0, hx305_1, hx305_2, hx305_3⟩ := at_T32 HR1.out x5_1 p305 q305
        have hw305_3 := hx305_3
        have hw305_2 := hx305_2
        have hw305_1 := hx305_1
        have hw305_0 := hx305_0
        cases e305
        replace hx305_0 := (HB.out.cell (World.block_lt_of_cell? w _ hx305_0)).trans hx305_0
        replace hx305_1 := (HB.out.cell (World.block_lt_of_cell? w _ hx305_1)).trans hx305_1
        replace hx305_2 := (HB.out.cell (World.block_lt_of_cell? w _ hx305_2)).trans hx305_2
        replace hx305_3 := (HB.out.cell (World.block_lt_of_cell? w _ hx305_3)).trans hx305_3
        replace p305 := eq_true p305
        replace q305 := eq_true q305
        refine start_ (n := 10) (S := fun w' => w'.cell? (ad304.add ((x5_1).toNat * 4)) = some (.bool ((rd_T32 l0 x5_1).f0.f0)) ∧ w'.cell? ⟨(ad304.add ((x5_1).toNat * 4)).block, (ad304.add ((x5_1).toNat * 4)).off + 1, none⟩ = some (.int .i64 ((rd_T32 l0 x5_1).f0.f1)) ∧ w'.cell? ⟨(ad304.add ((x5_1).toNat * 4)).block, (ad304.add ((x5_1).toNat * 4)).off + 2, none⟩ = some (.int .i64 ((rd_T32 l0 x5_1).f0.f2)) ∧ w'.cell? ⟨(ad304.add ((x5_1).toNat * 4)).block, (ad304.add ((x5_1).toNat * 4)).off + 3, none⟩ = some (.int .i64 ((rd_T32 l0 x5_1).f1)) ∧ w'.cell? (ad305.add ((x5_1).toNat * 4)) = some (.bool ((rd_T32 l1 x5_1).f0.f0)) ∧ w'.cell? ⟨(ad305.add ((x5_1).toNat * 4)).block, (ad305.add ((x5_1).toNat * 4)).off + 1, none⟩ = some (.int .i64 ((rd_T32 l1 x5_1).f0.f1)) ∧ w'.cell? ⟨(ad305.add ((x5_1).toNat * 4)).block, (ad305.add ((x5_1).toNat * 4)).off + 2, none⟩ = some (.int .i64 ((rd_T32 l1 x5_1).f0.f2)) ∧ w'.cell? ⟨(ad305.add ((x5_1).toNat * 4)).block, (ad305.add ((x5_1).toNat * 4)).off + 3, none⟩ = some (.int .i64 ((rd_T32 l1 x5_1).f1))) (ds := []) #[false, false, false, false, false, false, false, false, false, false] (by kernel_rfl) rfl rfl ⟨((HB.out.cell (World.block_lt_of_cell? w _ hw304_0)).trans hw304_0), ((HB.out.cell (World.block_lt_of_cell? w _ hw304_1)).trans hw304_1), ((HB.out.cell (World.block_lt_of_cell? w _ hw304_2)).trans hw304_2), ((HB.out.cell (World.block_lt_of_cell? w _ hw304_3)).trans hw304_3), ((HB.out.cell (World.block_lt_of_cell? w _ hw305_0)).trans hw305_0), ((HB.out.cell (World.block_lt_of_cell? w _ hw305_1)).trans hw305_1), ((HB.out.cell (World.block_lt_of_cell? w _ hw305_2)).trans hw305_2), ((HB.out.cell (World.block_lt_of_cell? w _ hw305_3)).trans hw305_3)⟩ (fun hHeld => ?_); refine with_tabW laws_eqPrefixS.tab6 laws_eqPrefixS.bits6 (fun HT_ HW_ => ?_)
        generalize wr.drew = w11 at HB hx304_0 hx304_1 hx304_2 hx304_3 hx305_0 hx305_1 hx305_2 hx305_3 hHeld ⊢
        refine pure_ (i := 0) (N := some 17) (v := ?_) (a' := ?_) #[true, false, false, false, false, false, false, false, false, false] rfl rfl (any_of HT_.out (by kernel_rfl)) (fun _ _ _ h => h) (Or.inl ⟨by rfl, ?_⟩) ?_ ?_
        rotate_left
        ·intro w'
         go_simp
         with_reducible rfl
        rotate_left
        ·simp only [put, setIfInBounds_toArray, set_cons_zero, set_cons_succ, i64_w, i32_w]
         rfl
        refine pure_ (i := 1) (N := some 18) (v := ?_) (a' := ?_) #[true, true, false, false, false, false, false, false, false, false] rfl rfl (any_of HT_.out (by kernel_rfl)) (fun _ _ _ h => h) (Or.inl ⟨by rfl, ?_⟩) ?_ ?_
        rotate_left
        ·intro w'
         go_simp
         with_reducible rfl
        rotate_left
        ·simp only [put, setIfInBounds_toArray, set_cons_zero, set_cons_succ, i64_w, i32_w]
         rfl
        refine pure_ (i := 2) (N := some 19) (v := ?_) (a' := ?_) #[true, true, true, false, false, false, false, false, false, false] rfl rfl (any_of HT_.out (by kernel_rfl)) (fun _ _ _ h => h) (Or.inl ⟨by rfl, ?_⟩) ?_ ?_
        rotate_left
        ·intro w'
         go_simp
         with_reducible rfl
        rotate_left
        ·simp only [put, setIfInBounds_toArray, set_cons_zero, set_cons_succ, i64_w, i32_w]
         rfl
        refine pure_ (i := 4) (N := some 21) (v := ?_) (a' := ?_) #[true, true, true, false, true, false, false, false, false, false] rfl rfl (any_of HT_.out (by kernel_rfl)) (fun _ _ _ h => h) (Or.inl ⟨by rfl, ?_⟩) ?_ ?_
        rotate_left
        ·intro w'
         go_simp
         with_reducible rfl
        rotate_left
        ·simp only [put, setIfInBounds_toArray, set_cons_zero, set_cons_succ, i64_w, i32_w]
         rfl
        refine pure_ (i := 5) (N := some 22) (v := ?_) (a' := ?_) #[true, true, true, false, true, true, false, false, false, false] rfl rfl (any_of HT_.out (by kernel_rfl)) (fun _ _ _ h => h) (Or.inl ⟨by rfl, ?_⟩) ?_ ?_
        rotate_left
        ·intro w'
         go_simp
         with_reducible rfl
        rotate_left
        ·simp only [put, setIfInBounds_toArray, set_cons_zero, set_cons_succ, i64_w, i32_w]
         rfl
        refine pure_ (i := 6) (N := some 23) (v := ?_) (a' := ?_) #[true, true, true, false, true, true, true, false, false, false] rfl rfl (any_of HT_.out (by kernel_rfl)) (fun _ _ _ h => h) (Or.inl ⟨by rfl, ?_⟩) ?_ ?_
        rotate_left
        ·intro w'
         go_simp
         with_reducible rfl
        rotate_left
        ·simp only [put, setIfInBounds_toArray, set_cons_zero, set_cons_succ, i64_w, i32_w]
         rfl
        refine take_ (i := 3) (N := some 20) (v := ?_) (a' := ?_) #[true, true, true, true, true, true, true, false, false, false] rfl rfl (take_ofW HT_.out HW_.out (by kernel_rfl)) (fun _ _ _ h => h) (Or.inl ⟨by rfl, ?_⟩) hHeld ?_ ?_
        rotate_left
        ·rintro w' ⟨s0, s1, s2, s3, s4, s5, s6, s7⟩
         go_simp
         with_reducible rfl
        rotate_left
        ·simp only [put, setIfInBounds_toArray, set_cons_zero, set_cons_succ, i64_w, i32_w]
         rfl
        refine take_ (i := 7) (N := some 24) (v := ?_) (a' := ?_) #[true, true, true, true, true, true, true, true, false, false] rfl rfl (take_ofW HT_.out HW_.out (by kernel_rfl)) (fun _ _ _ h => h) (Or.inl ⟨by rfl, ?_⟩) hHeld ?_ ?_
        rotate_left
        ·rintro w' ⟨s0, s1, s2, s3, s4, s5, s6, s7⟩
         go_simp
         with_reducible rfl
        rotate_left
        ·simp only [put, setIfInBounds_toArray, set_cons_zero, set_cons_succ, i64_w, i32_w]
         rfl
        refine one_ (i := 8) (N := some 25) #[true, true, true, true, true, true, true, true, true, false] rfl rfl (one_of HT_.out (by kernel_rfl)) (by decide) (fun K hK => ?_)
        refine goes_ Try.func21 (by kernel_rfl) rfl #[.agg #[.bool ((rd_T32 l0 x5_1).f0.f0), .int .i64 ((rd_T32 l0 x5_1).f0.f1), .int .i64 ((rd_T32 l0 x5_1).f0.f2), .int .i64 ((rd_T32 l0 x5_1).f1)], .agg #[.bool ((rd_T32 l1 x5_1).f0.f0), .int .i64 ((rd_T32 l1 x5_1).f0.f1), .int .i64 ((rd_T32 l1 x5_1).f0.f2), .int .i64 ((rd_T32 l1 x5_1).f1)]] (by rfl) rfl rfl (by (try simp only [List.map_toArray, List.map_cons, List.map_nil]); first | done | rfl | (simp only [List.length_drop, List.length_take]; rfl)) ?_
        with_reducible refine (laws_eqPrefix.calls ((rd_T32 l0 x5_1).f0.f0) ((rd_T32 l0 x5_1).f0.f1) ((rd_T32 l0 x5_1).f0.f2) ((rd_T32 l0 x5_1).f1) ((rd_T32 l1 x5_1).f0.f0) ((rd_T32 l1 x5_1).f0.f1) ((rd_T32 l1 x5_1).f0.f2) ((rd_T32 l1 x5_1).f1) false _ A7.out).mono ?_
        rintro e w12 ⟨rfl, hb⟩
        refine ⟨_, rfl, ?_⟩
        have n0_ := Aside0.mk (below_step (by repeat (first | (with_reducible first | exact HB.out | apply below_alloc | apply pw_below_drewN | apply below_drew1) | exact HB.out)) hb)
        clear HB
        have HB := n0_
        clear n0_
        (try clear hb)
        (try clear hb2)
        (try clear hk)
        (try clear hi)
        refine hK.out _ _ ⟨((HB.out.cell (World.block_lt_of_cell? w _ hw304_0)).trans hw304_0), ((HB.out.cell (World.block_lt_of_cell? w _ hw304_1)).trans hw304_1), ((HB.out.cell (World.block_lt_of_cell? w _ hw304_2)).trans hw304_2), ((HB.out.cell (World.block_lt_of_cell? w _ hw304_3)).trans hw304_3), ((HB.out.cell (World.block_lt_of_cell? w _ hw305_0)).trans hw305_0), ((HB.out.cell (World.block_lt_of_cell? w _ hw305_1)).trans hw305_1), ((HB.out.cell (World.block_lt_of_cell? w _ hw305_2)).trans hw305_2), ((HB.out.cell (World.block_lt_of_cell? w _ hw305_3)).trans hw305_3)⟩ (fun hHeld => ?_)
        clear hK K
        refine norm_ (a' := ?_) ?_ ?_
        rotate_left
        ·show Act.put _ (some 25) _ = _
         simp only [put, setIfInBounds_toArray, set_cons_zero, set_cons_succ, i64_w, i32_w]
         rfl
        refine pure_ (i := 9) (N := some 26) (v := ?_) (a' := ?_) #[true, true, true, true, true, true, true, true, true, true] rfl rfl (any_of HT_.out (by kernel_rfl)) (fun _ _ _ h => h) (Or.inl ⟨by rfl, ?_⟩) ?_ ?_
        rotate_left
        ·intro w'
         go_simp
         with_reducible rfl
        rotate_left
        ·simp only [put, setIfInBounds_toArray, set_cons_zero, set_cons_succ, i64_w, i32_w]
         rfl
        refine done_ (done_of HT_.out (by kernel_rfl)) ?_
        try go_wp2
        go_ret
        exact ⟨by first | rfl | (simp [errW_none, errW_some] <;> rfl) | (simp [*, errW_none, errW_some] <;> rfl), by repeat (first | (with_reducible first | exact HB.out | apply below_alloc | apply pw_below_drewN | apply below_drew1) | exact HB.out)⟩
      ·rw [if_neg c6] at H
       exact absurd H (by simp)
     ·rw [if_neg c5] at H
      exact absurd H (by simp)
    ·rw [if_neg c4] at H
     have c4b0 : decide (x5_1 < (l0.length : Int)) = false := decide_eq_false c4
     clear c4
     obtain rfl := Option.some.inj H
     go_wp2
     go_ret
     exact ⟨by first | rfl | (simp [errW_none, errW_some] <;> rfl) | (simp [*, errW_none, errW_some] <;> rfl), by repeat (first | (with_reducible first | exact HB.out | apply below_alloc | apply pw_below_drewN | apply below_drew1) | exact HB.out)⟩
 ·rw [if_neg c3] at H
  have c3b0 : ((l0.length : Int) == (l1.length : Int)) = false := beq_eq_false_iff_ne.mpr c3
  have c3b1 : ((l0.length : Int) != (l1.length : Int)) = true := bne_iff_ne.mpr c3
  have c3b2 : (l0.length == l1.length) = false := by first | simpa using c3 | (simp at c3 ⊢; omega)
  obtain rfl := Option.some.inj H
  go_enter Try.func57, Try.ntmps57
  go_wp2
  go_ret
  exact ⟨by first | rfl | (simp [errW_none, errW_some] <;> rfl) | (simp [*, errW_none, errW_some] <;> rfl), by repeat (first | (with_reducible first | exact HB.out | apply below_alloc | apply pw_below_drewN | apply below_drew1) | exact HB.out)⟩

/-! ### laws_FnExactFirstFree: function 13 -/
def laws_FnExactFirstFree.j0 : Nat → List (S30) → List (S32) → Bool → Option (Bool)
 | 0, _, _, _ => none
 | k + 1, x1, x10, x45 => if x45 = true then (some false) else ((laws_toPrefixS.f k x1).bind fun t336 => ((laws_eqPrefixS.f k x10 t336).bind fun t339 => (if t339 = true then (some true) else (some false))))
def laws_FnExactFirstFree.f (k : Nat) (a0_0 : Bool) (a0_1 : Int) (a0_2 : Int) (a0_3 : Int) (l1 : List (S30)) (a2 : Int) : Option (Bool) := (laws_szPrefixS.f l1 1048576).bind fun t308 => (if t308 < 0 then (some true) else ((laws_toPrefix.f a0_0 a0_1 a0_2 a0_3).bind fun bt309 => ((laws_toPrefixS.f k l1).bind fun t313 => ((spec_FirstFree.f k bt309.1 bt309.2.1 bt309.2.2.1 bt309.2.2.2 t313 a2).bind fun bt316 => ((laws_toPrefixS.f k l1).bind fun t322 => ((laws_toPrefix.f a0_0 a0_1 a0_2 a0_3).bind fun bt325 => ((impl_FirstFree.f k bt325.1 bt325.2.1 bt325.2.2.1 bt325.2.2.2 t322 a2).bind fun bt329 => ((laws_eqPrefix.f bt329.1 bt329.2.1 bt329.2.2.1 bt329.2.2.2.1 bt316.1 bt316.2.1 bt316.2.2.1 bt316.2.2.2.1).bind fun t335 => (if t335 = true then (laws_FnExactFirstFree.j0 k l1 t322 (bt329.2.2.2.2 != bt316.2.2.2.2)) else (laws_FnExactFirstFree.j0 k l1 t322 true))))))))))
theorem laws_FnExactFirstFree.mono_l : ∀ k, (∀ y0 y1 y2, LeO (laws_FnExactFirstFree.j0 k y0 y1 y2) (laws_FnExactFirstFree.j0 (k + 1) y0 y1 y2))
 | 0 => fun _ _ _ r h => by simp [laws_FnExactFirstFree.j0] at h
 | k + 1 => by
  have ih0 := laws_FnExactFirstFree.mono_l k
  ·intro y0 y1 y2
   unfold laws_FnExactFirstFree.j0
   repeat' first
   | (with_reducible exact ih0 _ _ _)
   | (with_reducible exact impl_FirstFree.mono _ _ _ _ _ _ _)
   | (with_reducible exact laws_eqPrefixS.mono _ _ _)
   | (with_reducible exact laws_toPrefixS.mono _ _)
   | (with_reducible exact spec_FirstFree.mono _ _ _ _ _ _ _)
   | (with_reducible exact LeO.refl _)
   | (with_reducible exact LeO.none _)
   | (with_reducible refine LeO.ite ?_ ?_)
   | (with_reducible refine LeO.bind ?_ (fun _ => ?_))
   | exact ih0 _ _ _
   | exact impl_FirstFree.mono _ _ _ _ _ _ _
   | exact laws_eqPrefixS.mono _ _ _
   | exact laws_toPrefixS.mono _ _
   | exact spec_FirstFree.mono _ _ _ _ _ _ _
   | exact LeO.none _
   | refine LeO.ite ?_ ?_
   | refine LeO.bind ?_ (fun _ => ?_)
theorem laws_FnExactFirstFree.mono : ∀ a0 a1 a2 a3 a4 a5 k, LeO (laws_FnExactFirstFree.f k a0 a1 a2 a3 a4 a5) (laws_FnExactFirstFree.f (k + 1) a0 a1 a2 a3 a4 a5) := by
 intro a0 a1 a2 a3 a4 a5 k
 have ih0 := laws_FnExactFirstFree.mono_l k
 unfold laws_FnExactFirstFree.f
 repeat' first
   | (with_reducible exact ih0 _ _ _)
   | (with_reducible exact impl_FirstFree.mono _ _ _ _ _ _ _)
   | (with_reducible exact laws_eqPrefixS.mono _ _ _)
   | (with_reducible exact laws_toPrefixS.mono _ _)
   | (with_reducible exact spec_FirstFree.mono _ _ _ _ _ _ _)
   | (with_reducible exact LeO.refl _)
   | (with_reducible exact LeO.none _)
   | (with_reducible refine LeO.ite ?_ ?_)
   | (with_reducible refine LeO.bind ?_ (fun _ => ?_))
   | exact ih0 _ _ _
   | exact impl_FirstFree.mono _ _ _ _ _ _ _
   | exact laws_eqPrefixS.mono _ _ _
   | exact laws_toPrefixS.mono _ _
   | exact spec_FirstFree.mono _ _ _ _ _ _ _
   | exact LeO.none _
   | refine LeO.ite ?_ ?_
   | refine LeO.bind ?_ (fun _ => ?_)
set_option maxHeartbeats 8000000 in
set_option maxRecDepth 100000 in
theorem laws_FnExactFirstFree.calls (k : Nat) (a0_0 : Bool) (a0_1 : Int) (a0_2 : Int) (a0_3 : Int) (A1 : Option Addr) (c1 : Nat) (l1 : List (S30)) (a2 : Int) (r : Bool) (w : World) (hr1 : Kd.C k30 w A1 l1.length l1) (hc1 : l1.length ≤ c1) (h : laws_FnExactFirstFree.f k a0_0 a0_1 a0_2 a0_3 l1 a2 = some r) :
  Calls Try.prog 13 #[.agg #[.bool a0_0, .int .i64 a0_1, .int .i64 a0_2, .int .i64 a0_3], .slice A1 l1.length c1, .int .i64 a2] w fun e w' => e = .returned (.bool r) ∧ Below w.heap.size w w' := by
 have hu30 := Try.underlying30
 have hu32 := Try.underlying32
 have HR1 := Aside0.mk hr1
 have HC1 := Aside0.mk hc1
 clear hr1 hc1
 have HB := Aside0.mk (Below.refl w.heap.size w)
 have H : ((laws_szPrefixS.f l1 1048576).bind fun t308 => (if t308 < 0 then (some true) else ((laws_toPrefix.f a0_0 a0_1 a0_2 a0_3).bind fun bt309 => ((laws_toPrefixS.f k l1).bind fun t313 => ((spec_FirstFree.f k bt309.1 bt309.2.1 bt309.2.2.1 bt309.2.2.2 t313 a2).bind fun bt316 => ((laws_toPrefixS.f k l1).bind fun t322 => ((laws_toPrefix.f a0_0 a0_1 a0_2 a0_3).bind fun bt325 => ((impl_FirstFree.f k bt325.1 bt325.2.1 bt325.2.2.1 bt325.2.2.2 t322 a2).bind fun bt329 => ((laws_eqPrefix.f bt329.1 bt329.2.1 bt329.2.2.1 bt329.2.2.2.1 bt316.1 bt316.2.1 bt316.2.2.1 bt316.2.2.2.1).bind fun t335 => (if t335 = true then (laws_FnExactFirstFree.j0 k l1 t322 (bt329.2.2.2.2 != bt316.2.2.2.2)) else (laws_FnExactFirstFree.j0 k l1 t322 true))))))))))) = some r := h
 clear h
 replace H := Option.bind_eq_some_iff.mp H
 obtain ⟨t308, A40, H⟩ := H
 replace H : (if t308 < 0 then (some true) else ((laws_toPrefix.f a0_0 a0_1 a0_2 a0_3).bind fun bt309 => ((laws_toPrefixS.f k l1).bind fun t313 => ((spec_FirstFree.f k bt309.1 bt309.2.1 bt309.2.2.1 bt309.2.2.2 t313 a2).bind fun bt316 => ((laws_toPrefixS.f k l1).bind fun t322 => ((laws_toPrefix.f a0_0 a0_1 a0_2 a0_3).bind fun bt325 => ((impl_FirstFree.f k bt325.1 bt325.2.1 bt325.2.2.1 bt325.2.2.2 t322 a2).bind fun bt329 => ((laws_eqPrefix.f bt329.1 bt329.2.1 bt329.2.2.1 bt329.2.2.2.1 bt316.1 bt316.2.1 bt316.2.2.1 bt316.2.2.2.1).bind fun t335 => (if t335 = true then (laws_FnExactFirstFree.j0 k l1 t322 (bt329.2.2.2.2 != bt316.2.2.2.2)) else (laws_FnExactFirstFree.j0 k l1 t322 true)))))))))) = some r := H
 have A4 := Aside0.mk A40
 clear A40
 by_cases c5 : t308 < 0
 ·rw [if_pos c5] at H
  have c5b0 : decide (t308 < 0) = true := decide_eq_true c5
  clear c5
  obtain rfl := Option.some.inj H
  go_enter Try.func13, Try.ntmps13
  go_wp2_with (first | ((with_reducible refine gate_dst (N := 3) rfl ?_); refine box_event ?hg (N := 3) ?hd (cs := #[.bool a0_0, .int .i64 a0_1, .int .i64 a0_2, .int .i64 a0_3]) (t := 30) ?hr ?_; (case hd => rfl); (case hg => rfl); (case hr => first | (go_simp; done) | (go_simp; rfl)); intro gb307 hg w6 hbox hb; have n0_ := Aside0.mk (below_step (by repeat (first | (with_reducible first | exact HB.out | apply below_alloc | apply pw_below_drewN | apply below_drew1) | exact HB.out)) hb); have n1_ := Aside0.mk (hbox); have n2_ := Aside0.mk ((by rw [hg]; exact (below_size (by repeat (first | (with_reducible first | exact HB.out | apply below_alloc | apply pw_below_drewN | apply below_drew1) | exact HB.out))) : w.heap.size ≤ gb307)); have n3_ := Aside0.mk ((by rw [hg]; exact (below_size (by repeat (first | (with_reducible first | exact HB.out | apply below_alloc | apply pw_below_drewN | apply below_drew1) | exact HB.out))) : w.heap.size ≤ gb307)); clear HB; have HB := n0_; have BK307 := n1_; have GW307 := n2_; have GE307 := n3_; clear n0_ n1_ n2_ n3_; clear hb hbox hg) | ((with_reducible refine gate_callee (f := 53) rfl ?_); refine goesL_ (some 15) rfl rfl Try.func53 (by kernel_rfl) rfl #[.slice A1 l1.length c1, .int .i64 1048576] rfl (by (try simp only [List.map_toArray, List.map_cons, List.map_nil]); first | done | rfl | (simp only [List.length_drop, List.length_take]; rfl)) ?_; (with_reducible refine (laws_szPrefixS.calls _ _ l1 1048576 t308 _ ?side1 ?side2 A4.out).mono ?_); (case side1 => repeat (first | exact (Kd.C_below HR1.out HB.out) | (with_reducible refine Kd.C_alloc ?_ _) | (with_reducible refine Kd.C_drewN ?_ _) | (with_reducible refine Kd.C_drew ?_))); (case side2 => exact HC1.out); rintro e w' ⟨rfl, ⟨nd, rfl⟩⟩; refine ⟨_, rfl, ?_⟩))
  go_ret
  exact ⟨by first | rfl | (simp [errW_none, errW_some] <;> rfl) | (simp [*, errW_none, errW_some] <;> rfl), by repeat (first | (with_reducible first | exact HB.out | apply below_alloc | apply pw_below_drewN | apply below_drew1 | refine below_set ?_ GE307.out) | exact HB.out)⟩
 ·rw [if_neg c5] at H
  have c5b0 : decide (t308 < 0) = false := decide_eq_false c5
  clear c5
  replace H := Option.bind_eq_some_iff.mp H
  obtain ⟨⟨t309, t310, t311, t312⟩, A70, H⟩ := H
  replace H : ((laws_toPrefixS.f k l1).bind fun t313 => ((spec_FirstFree.f k t309 t310 t311 t312 t313 a2).bind fun bt316 => ((laws_toPrefixS.f k l1).bind fun t322 => ((laws_toPrefix.f a0_0 a0_1 a0_2 a0_3).bind fun bt325 => ((impl_FirstFree.f k bt325.1 bt325.2.1 bt325.2.2.1 bt325.2.2.2 t322 a2).bind fun bt329 => ((laws_eqPrefix.f bt329.1 bt329.2.1 bt329.2.2.1 bt329.2.2.2.1 bt316.1 bt316.2.1 bt316.2.2.1 bt316.2.2.2.1).bind fun t335 => (if t335 = true then (laws_FnExactFirstFree.j0 k l1 t322 (bt329.2.2.2.2 != bt316.2.2.2.2)) else (laws_FnExactFirstFree.j0 k l1 t322 true)))))))) = some r := H
  have A7 := Aside0.mk A70
  clear A70
  replace H := Option.bind_eq_some_iff.mp H
  obtain ⟨t313, A80, H⟩ := H
  replace H : ((spec_FirstFree.f k t309 t310 t311 t312 t313 a2).bind fun bt316 => ((laws_toPrefixS.f k l1).bind fun t322 => ((laws_toPrefix.f a0_0 a0_1 a0_2 a0_3).bind fun bt325 => ((impl_FirstFree.f k bt325.1 bt325.2.1 bt325.2.2.1 bt325.2.2.2 t322 a2).bind fun bt329 => ((laws_eqPrefix.f bt329.1 bt329.2.1 bt329.2.2.1 bt329.2.2.2.1 bt316.1 bt316.2.1 bt316.2.2.1 bt316.2.2.2.1).bind fun t335 => (if t335 = true then (laws_FnExactFirstFree.j0 k l1 t322 (bt329.2.2.2.2 != bt316.2.2.2.2)) else (laws_FnExactFirstFree.j0 k l1 t322 true))))))) = some r := H
  have A8 := Aside0.mk A80
  clear A80
  replace H := Option.bind_eq_some_iff.mp H
  obtain ⟨⟨t316, t317, t318, t319, t320⟩, A90, H⟩ := H
  replace H : ((laws_toPrefixS.f k l1).bind fun t322 => ((laws_toPrefix.f a0_0 a0_1 a0_2 a0_3).bind fun bt325 => ((impl_FirstFree.f k bt325.1 bt325.2.1 bt325.2.2.1 bt325.2.2.2 t322 a2).bind fun bt329 => ((laws_eqPrefix.f bt329.1 bt329.2.1 bt329.2.2.1 bt329.2.2.2.1 t316 t317 t318 t319).bind fun t335 => (if t335 = true then (laws_FnExactFirstFree.j0 k l1 t322 (bt329.2.2.2.2 != t320)) else (laws_FnExactFirstFree.j0 k l1 t322 true)))))) = some r := H
  have A9 := Aside0.mk A90
  clear A90
  replace H := Option.bind_eq_some_iff.mp H
  obtain ⟨t322, A100, H⟩ := H
  replace H : ((laws_toPrefix.f a0_0 a0_1 a0_2 a0_3).bind fun bt325 => ((impl_FirstFree.f k bt325.1 bt325.2.1 bt325.2.2.1 bt325.2.2.2 t322 a2).bind fun bt329 => ((laws_eqPrefix.f bt329.1 bt329.2.1 bt329.2.2.1 bt329.2.2.2.1 t316 t317 t318 t319).bind fun t335 => (if t335 = true then (laws_FnExactFirstFree.j0 k l1 t322 (bt329.2.2.2.2 != t320)) else (laws_FnExactFirstFree.j0 k l1 t322 true))))) = some r := H
  have A10 := Aside0.mk A100
  clear A100
  replace H := Option.bind_eq_some_iff.mp H
  obtain ⟨⟨t325, t326, t327, t328⟩, A110, H⟩ := H
  replace H : ((impl_FirstFree.f k t325 t326 t327 t328 t322 a2).bind fun bt329 => ((laws_eqPrefix.f bt329.1 bt329.2.1 bt329.2.2.1 bt329.2.2.2.1 t316 t317 t318 t319).bind fun t335 => (if t335 = true then (laws_FnExactFirstFree.j0 k l1 t322 (bt329.2.2.2.2 != t320)) else (laws_FnExactFirstFree.j0 k l1 t322 true)))) = some r := H
  have A11 := Aside0.mk A110
  clear A110
  replace H := Option.bind_eq_some_iff.mp H
  obtain ⟨⟨t329, t330, t331, t332, t333⟩, A120, H⟩ := H
  replace H : ((laws_eqPrefix.f t329 t330 t331 t332 t316 t317 t318 t319).bind fun t335 => (if t335 = true then (laws_FnExactFirstFree.j0 k l1 t322 (t333 != t320)) else (laws_FnExactFirstFree.j0 k l1 t322 true))) = some r := H
  have A12 := Aside0.mk A120
  clear A120
  have HC13 := Aside0.mk H
  clear H
  go_enter Try.func13, Try.ntmps13
  go_upto_region 8 with (first | ((with_reducible refine gate_dst (N := 3) rfl ?_); refine box_event ?hg (N := 3) ?hd (cs := #[.bool a0_0, .int .i64 a0_1, .int .i64 a0_2, .int .i64 a0_3]) (t := 30) ?hr ?_; (case hd => rfl); (case hg => rfl); (case hr => first | (go_simp; done) | (go_simp; rfl)); intro gb307 hg w14 hbox hb; have n0_ := Aside0.mk (below_step (by repeat (first | (with_reducible first | exact HB.out | apply below_alloc | apply pw_below_drewN | apply below_drew1) | exact HB.out)) hb); have n1_ := Aside0.mk (hbox); have n2_ := Aside0.mk ((by rw [hg]; exact (below_size (by repeat (first | (with_reducible first | exact HB.out | apply below_alloc | apply pw_below_drewN | apply below_drew1) | exact HB.out))) : w.heap.size ≤ gb307)); have n3_ := Aside0.mk ((by rw [hg]; exact (below_size (by repeat (first | (with_reducible first | exact HB.out | apply below_alloc | apply pw_below_drewN | apply below_drew1) | exact HB.out))) : w.heap.size ≤ gb307)); clear HB; have HB := n0_; have BK307 := n1_; have GW307 := n2_; have GE307 := n3_; clear n0_ n1_ n2_ n3_; clear hb hbox hg) | ((with_reducible refine gate_callee (f := 53) rfl ?_); refine goesL_ (some 15) rfl rfl Try.func53 (by kernel_rfl) rfl #[.slice A1 l1.length c1, .int .i64 1048576] rfl (by (try simp only [List.map_toArray, List.map_cons, List.map_nil]); first | done | rfl | (simp only [List.length_drop, List.length_take]; rfl)) ?_; (with_reducible refine (laws_szPrefixS.calls _ _ l1 1048576 t308 _ ?side1 ?side2 A4.out).mono ?_); (case side1 => repeat (first | exact (Kd.C_below HR1.out HB.out) | (with_reducible refine Kd.C_alloc ?_ _) | (with_reducible refine Kd.C_drewN ?_ _) | (with_reducible refine Kd.C_drew ?_))); (case side2 => exact HC1.out); rintro e w' ⟨rfl, ⟨nd, rfl⟩⟩; refine ⟨_, rfl, ?_⟩; (try (rw [drewN_self w14]; generalize hq_ : World.drewN w14 _ = w14; have n0_ : Aside0 (w14.heap[gb307]? = some (.cells #[.bool a0_0, .int .i64 a0_1, .int .i64 a0_2, .int .i64 a0_3] 30 (0, 0))) := ⟨by rw [← hq_]; exact (by (with_reducible repeat (first | apply blk_drewN | apply blk_drew | apply blk_alloc)); exact BK307.out)⟩; have n1_ : Aside0 (Below w.heap.size w w14) := ⟨by rw [← hq_]; exact (by repeat (first | (with_reducible first | exact HB.out | apply below_alloc | apply pw_below_drewN | apply below_drew1 | refine below_set ?_ GE307.out) | exact HB.out))⟩; clear BK307 HB hq_; have BK307 := n0_; have HB := n1_; clear n0_ n1_)); have hcz15_0 : w14.cell? ⟨gb307, 0, none⟩ = some (.bool a0_0) := (blk_cell BK307.out 0).trans rfl; have hcz15_1 : w14.cell? ⟨gb307, 1, none⟩ = some (.int .i64 a0_1) := (blk_cell BK307.out 1).trans rfl; have hcz15_2 : w14.cell? ⟨gb307, 2, none⟩ = some (.int .i64 a0_2) := (blk_cell BK307.out 2).trans rfl; have hcz15_3 : w14.cell? ⟨gb307, 3, none⟩ = some (.int .i64 a0_3) := (blk_cell BK307.out 3).trans rfl; have hfz15_0 := blk_frozen BK307.out 0; have hfz15_1 := blk_frozen BK307.out 1; have hfz15_2 := blk_frozen BK307.out 2; have hfz15_3 := blk_frozen BK307.out 3) | ((with_reducible refine gate_callee (f := 19) rfl ?_); refine goesL_ (some 20) rfl rfl Try.func19 (by kernel_rfl) rfl #[.agg #[.bool a0_0, .int .i64 a0_1, .int .i64 a0_2, .int .i64 a0_3]] rfl (by (try simp only [List.map_toArray, List.map_cons, List.map_nil]); first | done | rfl | (simp only [List.length_drop, List.length_take]; rfl)) ?_; (with_reducible refine (laws_toPrefix.calls a0_0 a0_1 a0_2 a0_3 t309 t310 t311 t312 _ A7.out).mono ?_); rintro e w16 ⟨rfl, hb⟩; refine ⟨_, rfl, ?_⟩; have n0_ := Aside0.mk (blk_below (g := gb307) (o := .cells #[.bool a0_0, .int .i64 a0_1, .int .i64 a0_2, .int .i64 a0_3] 30 (0, 0)) (by (with_reducible repeat (first | apply blk_drewN | apply blk_drew | apply blk_alloc)); exact BK307.out) hb); have n1_ := Aside0.mk (below_step (by repeat (first | (with_reducible first | exact HB.out | apply below_alloc | apply pw_below_drewN | apply below_drew1 | refine below_set ?_ GE307.out) | exact HB.out)) hb); clear BK307; clear HB; have BK307 := n0_; have HB := n1_; clear n0_ n1_; (try clear hb); (try clear hb2); (try clear hk); (try clear hi)) | ((with_reducible refine gate_callee (f := 55) rfl ?_); refine goesL_ (some 22) rfl rfl Try.func55 (by kernel_rfl) rfl #[.slice A1 l1.length c1] rfl (by (try simp only [List.map_toArray, List.map_cons, List.map_nil]); first | done | rfl | (simp only [List.length_drop, List.length_take]; rfl)) ?_; (with_reducible refine (laws_toPrefixS.calls k _ _ l1 t313 _ ?side1 ?side2 A8.out).mono ?_); (case side1 => repeat (first | exact (Kd.C_below HR1.out HB.out) | (with_reducible refine Kd.C_alloc ?_ _) | (with_reducible refine Kd.C_drewN ?_ _) | (with_reducible refine Kd.C_drew ?_))); (case side2 => exact HC1.out); rintro e w17 ⟨v314, rfl, ho0, hb⟩; refine ⟨_, rfl, ?_⟩; have n0_ := Aside0.mk (Kd.R_lower ho0 (below_size (by repeat (first | (with_reducible first | exact HB.out | apply below_alloc | apply pw_below_drewN | apply below_drew1 | refine below_set ?_ GE307.out) | exact HB.out)))); have n1_ := Aside0.mk (blk_below (g := gb307) (o := .cells #[.bool a0_0, .int .i64 a0_1, .int .i64 a0_2, .int .i64 a0_3] 30 (0, 0)) (by (with_reducible repeat (first | apply blk_drewN | apply blk_drew | apply blk_alloc)); exact BK307.out) hb); have n2_ := Aside0.mk (below_step (by repeat (first | (with_reducible first | exact HB.out | apply below_alloc | apply pw_below_drewN | apply below_drew1 | refine below_set ?_ GE307.out) | exact HB.out)) hb); clear BK307; clear HB; have HO315 := n0_; have BK307 := n1_; have HB := n2_; clear n0_ n1_ n2_; (try clear hb); (try clear hb2); (try clear hk); (try clear hi); (try clear ho0); obtain ⟨Ao18, co18, eo18⟩ := Kd.R_slice HO315.out; subst eo18) | ((with_reducible refine gate_callee (f := 54) rfl ?_); refine goesL_ (some 24) rfl rfl Try.func54 (by kernel_rfl) rfl #[.agg #[.bool t309, .int .i64 t310, .int .i64 t311, .int .i64 t312], .slice Ao18 t313.length co18, .int .i64 a2] rfl (by (try simp only [List.map_toArray, List.map_cons, List.map_nil]); first | done | rfl | (simp only [List.length_drop, List.length_take]; rfl)) ?_; (with_reducible refine (spec_FirstFree.calls k t309 t310 t311 t312 _ _ t313 a2 t316 t317 t318 t319 t320 _ ?side1 ?side2 A9.out).mono ?_); (case side1 => repeat (first | exact (Kd.R_reads' HO315.out).2.2 | (with_reducible refine Kd.C_alloc ?_ _) | (with_reducible refine Kd.C_drewN ?_ _) | (with_reducible refine Kd.C_drew ?_))); (case side2 => exact (Kd.R_reads' HO315.out).2.1); rintro e w19 ⟨rfl, hb⟩; refine ⟨_, rfl, ?_⟩; have n0_ := Aside0.mk (Kd.R_below (by (with_reducible repeat (first | apply Kd.R_alloc | apply Kd.R_drewN | apply Kd.R_drew)); exact HO315.out) hb); have n1_ := Aside0.mk (blk_below (g := gb307) (o := .cells #[.bool a0_0, .int .i64 a0_1, .int .i64 a0_2, .int .i64 a0_3] 30 (0, 0)) (by (with_reducible repeat (first | apply blk_drewN | apply blk_drew | apply blk_alloc)); exact BK307.out) hb); have n2_ := Aside0.mk (below_step (by repeat (first | (with_reducible first | exact HB.out | apply below_alloc | apply pw_below_drewN | apply below_drew1 | refine below_set ?_ GE307.out) | exact HB.out)) hb); clear HO315; clear BK307; clear HB; have HO315 := n0_; have BK307 := n1_; have HB := n2_; clear n0_ n1_ n2_; (try clear hb); (try clear hb2); (try clear hk); (try clear hi)) | ((with_reducible refine gate_dst (N := 8) rfl ?_); refine box_event ?hg (N := 8) ?hd (cs := #[.bool false, .int .i64 0, .int .i64 0, .int .i64 0]) (t := 32) ?hr ?_; (case hd => rfl); (case hg => rfl); (case hr => first | (go_simp; done) | (go_simp; rfl)); intro gb321 hg w20 hbox hb; have n0_ := Aside0.mk (Kd.R_below (Kd.R_elderB (by (with_reducible repeat (first | apply Kd.R_alloc | apply Kd.R_drewN | apply Kd.R_drew)); exact HO315.out) gb321 (Nat.le_of_eq hg.symm)) hb); have n1_ := Aside0.mk (blk_below (g := gb307) (o := .cells #[.bool a0_0, .int .i64 a0_1, .int .i64 a0_2, .int .i64 a0_3] 30 (0, 0)) (by (with_reducible repeat (first | apply blk_drewN | apply blk_drew | apply blk_alloc)); exact BK307.out) hb); have n2_ := Aside0.mk (below_step (by repeat (first | (with_reducible first | exact HB.out | apply below_alloc | apply pw_below_drewN | apply below_drew1 | refine below_set ?_ GE307.out) | exact HB.out)) hb); have n3_ := Aside0.mk (hbox); have n4_ := Aside0.mk ((by rw [hg]; exact (below_size (by repeat (first | (with_reducible first | exact HB.out | apply below_alloc | apply pw_below_drewN | apply below_drew1 | refine below_set ?_ GE307.out) | exact HB.out))) : w.heap.size ≤ gb321)); have n5_ := Aside0.mk ((by rw [hg]; exact (below_size (by repeat (first | (with_reducible first | exact HB.out | apply below_alloc | apply pw_below_drewN | apply below_drew1 | refine below_set ?_ GE307.out) | exact HB.out))) : w.heap.size ≤ gb321)); have n6_ := Aside0.mk ((by rw [hg]; exact Nat.ne_of_lt (blk_lt (g := gb307) (o := .cells #[.bool a0_0, .int .i64 a0_1, .int .i64 a0_2, .int .i64 a0_3] 30 (0, 0)) (by (with_reducible repeat (first | apply blk_drewN | apply blk_drew | apply blk_alloc)); exact BK307.out)) : gb307 ≠ gb321)); have n7_ := Aside0.mk ((by rw [hg]; exact Nat.ne_of_gt (blk_lt (g := gb307) (o := .cells #[.bool a0_0, .int .i64 a0_1, .int .i64 a0_2, .int .i64 a0_3] 30 (0, 0)) (by (with_reducible repeat (first | apply blk_drewN | apply blk_drew | apply blk_alloc)); exact BK307.out)) : gb321 ≠ gb307)); clear HO315; clear BK307; clear HB; have HO315 := n0_; have BK307 := n1_; have HB := n2_; have BK321 := n3_; have GW321 := n4_; have GE321 := n5_; have NB307_321 := n6_; have NB321_307 := n7_; clear n0_ n1_ n2_ n3_ n4_ n5_ n6_ n7_; clear hb hbox hg; have hnb21 := NB321_307.out; have hnc21 := NB307_321.out; have hcz22_0 : w20.cell? ⟨gb321, 0, none⟩ = some (.bool false) := (blk_cell BK321.out 0).trans rfl; have hcz22_1 : w20.cell? ⟨gb321, 1, none⟩ = some (.int .i64 0) := (blk_cell BK321.out 1).trans rfl; have hcz22_2 : w20.cell? ⟨gb321, 2, none⟩ = some (.int .i64 0) := (blk_cell BK321.out 2).trans rfl; have hcz22_3 : w20.cell? ⟨gb321, 3, none⟩ = some (.int .i64 0) := (blk_cell BK321.out 3).trans rfl; have hfz22_0 := blk_frozen BK321.out 0; have hfz22_1 := blk_frozen BK321.out 1; have hfz22_2 := blk_frozen BK321.out 2; have hfz22_3 := blk_frozen BK321.out 3) | ((with_reducible refine gate_callee (f := 55) rfl ?_); refine goesL_ (some 28) rfl rfl Try.func55 (by kernel_rfl) rfl #[.slice A1 l1.length c1] rfl (by (try simp only [List.map_toArray, List.map_cons, List.map_nil]); first | done | rfl | (simp only [List.length_drop, List.length_take]; rfl)) ?_; (with_reducible refine (laws_toPrefixS.calls k _ _ l1 t322 _ ?side1 ?side2 A10.out).mono ?_); (case side1 => exact Kd.C_below HR1.out (by repeat (first | (with_reducible first | exact HB.out | apply below_alloc | apply pw_below_drewN | apply below_drew1 | refine below_set ?_ GE307.out | refine below_set ?_ GE321.out) | exact HB.out))); (case side2 => exact HC1.out); rintro e w23 ⟨v323, rfl, ho0, hb⟩; refine ⟨_, rfl, ?_⟩; have n0_ := Aside0.mk (Kd.R_elder' (by (with_reducible repeat (first | apply Kd.R_alloc | apply Kd.R_drewN | apply Kd.R_drew)); exact (Kd.R_mono (Kd.R_far (p := ⟨gb321, 3, none⟩) (Kd.R_far (p := ⟨gb321, 2, none⟩) (Kd.R_far (p := ⟨gb321, 1, none⟩) (Kd.R_far (p := ⟨gb321, 0, none⟩) (Kd.R_mono HO315.out (fun k_ hk => (⟨hk, hk.2⟩ : _ ∧ k_ ≠ gb321))) (fun _ hk => hk.2) (.bool t316)) (fun _ hk => hk.2) (.int .i64 t317)) (fun _ hk => hk.2) (.int .i64 t318)) (fun _ hk => hk.2) (.int .i64 t319)) (fun _ h_ => h_.1))) (Kd.R_base ho0) hb); have n1_ := Aside0.mk (Kd.R_lower (Kd.R_newB (Kd.R_new' ho0 (Kd.R_lt (by (with_reducible repeat (first | apply Kd.R_alloc | apply Kd.R_drewN | apply Kd.R_drew)); exact (Kd.R_mono (Kd.R_far (p := ⟨gb321, 3, none⟩) (Kd.R_far (p := ⟨gb321, 2, none⟩) (Kd.R_far (p := ⟨gb321, 1, none⟩) (Kd.R_far (p := ⟨gb321, 0, none⟩) (Kd.R_mono HO315.out (fun k_ hk => (⟨hk, hk.2⟩ : _ ∧ k_ ≠ gb321))) (fun _ hk => hk.2) (.bool t316)) (fun _ hk => hk.2) (.int .i64 t317)) (fun _ hk => hk.2) (.int .i64 t318)) (fun _ hk => hk.2) (.int .i64 t319)) (fun _ h_ => h_.1))))) (g := gb321) (o := .cells #[.bool t316, .int .i64 t317, .int .i64 t318, .int .i64 t319] 32 (0, 0)) (by (with_reducible repeat (first | apply blk_drewN | apply blk_drew | apply blk_alloc)); refine blk_put (cs := #[.bool t316, .int .i64 t317, .int .i64 t318, .int .i64 0]) ?_ 3 _ rfl; (with_reducible repeat (first | apply blk_drewN | apply blk_drew | apply blk_alloc)); refine blk_put (cs := #[.bool t316, .int .i64 t317, .int .i64 0, .int .i64 0]) ?_ 2 _ rfl; (with_reducible repeat (first | apply blk_drewN | apply blk_drew | apply blk_alloc)); refine blk_put (cs := #[.bool t316, .int .i64 0, .int .i64 0, .int .i64 0]) ?_ 1 _ rfl; (with_reducible repeat (first | apply blk_drewN | apply blk_drew | apply blk_alloc)); refine blk_put (cs := #[.bool false, .int .i64 0, .int .i64 0, .int .i64 0]) ?_ 0 _ rfl; (with_reducible repeat (first | apply blk_drewN | apply blk_drew | apply blk_alloc)); exact BK321.out)) (below_size (by repeat (first | (with_reducible first | exact HB.out | apply below_alloc | apply pw_below_drewN | apply below_drew1 | refine below_set ?_ GE307.out | refine below_set ?_ GE321.out) | exact HB.out)))); have n2_ := Aside0.mk (blk_below (g := gb307) (o := .cells #[.bool a0_0, .int .i64 a0_1, .int .i64 a0_2, .int .i64 a0_3] 30 (0, 0)) (by (with_reducible repeat (first | apply blk_drewN | apply blk_drew | apply blk_alloc)); refine blk_far ?_ NB307_321.out _; (with_reducible repeat (first | apply blk_drewN | apply blk_drew | apply blk_alloc)); refine blk_far ?_ NB307_321.out _; (with_reducible repeat (first | apply blk_drewN | apply blk_drew | apply blk_alloc)); refine blk_far ?_ NB307_321.out _; (with_reducible repeat (first | apply blk_drewN | apply blk_drew | apply blk_alloc)); refine blk_far ?_ NB307_321.out _; (with_reducible repeat (first | apply blk_drewN | apply blk_drew | apply blk_alloc)); exact BK307.out) hb); have n3_ := Aside0.mk (blk_below (g := gb321) (o := .cells #[.bool t316, .int .i64 t317, .int .i64 t318, .int .i64 t319] 32 (0, 0)) (by (with_reducible repeat (first | apply blk_drewN | apply blk_drew | apply blk_alloc)); refine blk_put (cs := #[.bool t316, .int .i64 t317, .int .i64 t318, .int .i64 0]) ?_ 3 _ rfl; (with_reducible repeat (first | apply blk_drewN | apply blk_drew | apply blk_alloc)); refine blk_put (cs := #[.bool t316, .int .i64 t317, .int .i64 0, .int .i64 0]) ?_ 2 _ rfl; (with_reducible repeat (first | apply blk_drewN | apply blk_drew | apply blk_alloc)); refine blk_put (cs := #[.bool t316, .int .i64 0, .int .i64 0, .int .i64 0]) ?_ 1 _ rfl; (with_reducible repeat (first | apply blk_drewN | apply blk_drew | apply blk_alloc)); refine blk_put (cs := #[.bool false, .int .i64 0, .int .i64 0, .int .i64 0]) ?_ 0 _ rfl; (with_reducible repeat (first | apply blk_drewN | apply blk_drew | apply blk_alloc)); exact BK321.out) hb); have n4_ := Aside0.mk (below_step (by repeat (first | (with_reducible first | exact HB.out | apply below_alloc | apply pw_below_drewN | apply below_drew1 | refine below_set ?_ GE307.out | refine below_set ?_ GE321.out) | exact HB.out)) hb); clear HO315; clear BK307; clear BK321; clear HB; have HO315 := n0_; have HO324 := n1_; have BK307 := n2_; have BK321 := n3_; have HB := n4_; clear n0_ n1_ n2_ n3_ n4_; (try clear hb); (try clear hb2); (try clear hk); (try clear hi); (try clear ho0); have hcz24_0 : w23.cell? ⟨gb307, 0, none⟩ = some (.bool a0_0) := (blk_cell BK307.out 0).trans rfl; have hcz24_1 : w23.cell? ⟨gb307, 1, none⟩ = some (.int .i64 a0_1) := (blk_cell BK307.out 1).trans rfl; have hcz24_2 : w23.cell? ⟨gb307, 2, none⟩ = some (.int .i64 a0_2) := (blk_cell BK307.out 2).trans rfl; have hcz24_3 : w23.cell? ⟨gb307, 3, none⟩ = some (.int .i64 a0_3) := (blk_cell BK307.out 3).trans rfl; have hfz24_0 := blk_frozen BK307.out 0; have hfz24_1 := blk_frozen BK307.out 1; have hfz24_2 := blk_frozen BK307.out 2; have hfz24_3 := blk_frozen BK307.out 3) | ((with_reducible refine gate_callee (f := 19) rfl ?_); refine goesL_ (some 31) rfl rfl Try.func19 (by kernel_rfl) rfl #[.agg #[.bool a0_0, .int .i64 a0_1, .int .i64 a0_2, .int .i64 a0_3]] rfl (by (try simp only [List.map_toArray, List.map_cons, List.map_nil]); first | done | rfl | (simp only [List.length_drop, List.length_take]; rfl)) ?_; (with_reducible refine (laws_toPrefix.calls a0_0 a0_1 a0_2 a0_3 t325 t326 t327 t328 _ A11.out).mono ?_); rintro e w25 ⟨rfl, hb⟩; refine ⟨_, rfl, ?_⟩; have n0_ := Aside0.mk (Kd.R_below (by (with_reducible repeat (first | apply Kd.R_alloc | apply Kd.R_drewN | apply Kd.R_drew)); exact HO315.out) hb); have n1_ := Aside0.mk (Kd.R_below (by (with_reducible repeat (first | apply Kd.R_alloc | apply Kd.R_drewN | apply Kd.R_drew)); exact HO324.out) hb); have n2_ := Aside0.mk (blk_below (g := gb307) (o := .cells #[.bool a0_0, .int .i64 a0_1, .int .i64 a0_2, .int .i64 a0_3] 30 (0, 0)) (by (with_reducible repeat (first | apply blk_drewN | apply blk_drew | apply blk_alloc)); exact BK307.out) hb); have n3_ := Aside0.mk (blk_below (g := gb321) (o := .cells #[.bool t316, .int .i64 t317, .int .i64 t318, .int .i64 t319] 32 (0, 0)) (by (with_reducible repeat (first | apply blk_drewN | apply blk_drew | apply blk_alloc)); exact BK321.out) hb); have n4_ := Aside0.mk (below_step (by repeat (first | (with_reducible first | exact HB.out | apply below_alloc | apply pw_below_drewN | apply below_drew1 | refine below_set ?_ GE307.out | refine below_set ?_ GE321.out) | exact HB.out)) hb); clear HO315; clear HO324; clear BK307; clear BK321; clear HB; have HO315 := n0_; have HO324 := n1_; have BK307 := n2_; have BK321 := n3_; have HB := n4_; clear n0_ n1_ n2_ n3_ n4_; (try clear hb); (try clear hb2); (try clear hk); (try clear hi); obtain ⟨Ao26, co26, eo26⟩ := Kd.R_slice HO324.out; subst eo26) | ((with_reducible refine gate_callee (f := 56) rfl ?_); refine goesL_ (some 34) rfl rfl Try.func56 (by kernel_rfl) rfl #[.agg #[.bool t325, .int .i64 t326, .int .i64 t327, .int .i64 t328], .slice Ao26 t322.length co26, .int .i64 a2] rfl (by (try simp only [List.map_toArray, List.map_cons, List.map_nil]); first | done | rfl | (simp only [List.length_drop, List.length_take]; rfl)) ?_; (with_reducible refine (impl_FirstFree.calls k t325 t326 t327 t328 _ _ t322 a2 t329 t330 t331 t332 t333 _ ?side1 ?side2 A12.out).mono ?_); (case side1 => repeat (first | exact (Kd.R_reads' HO324.out).2.2 | (with_reducible refine Kd.C_alloc ?_ _) | (with_reducible refine Kd.C_drewN ?_ _) | (with_reducible refine Kd.C_drew ?_))); (case side2 => exact (Kd.R_reads' HO324.out).2.1); rintro e w27 ⟨rfl, hb⟩; refine ⟨_, rfl, ?_⟩; have n0_ := Aside0.mk (Kd.R_below (by (with_reducible repeat (first | apply Kd.R_alloc | apply Kd.R_drewN | apply Kd.R_drew)); exact HO315.out) hb); have n1_ := Aside0.mk (Kd.R_below (by (with_reducible repeat (first | apply Kd.R_alloc | apply Kd.R_drewN | apply Kd.R_drew)); exact HO324.out) hb); have n2_ := Aside0.mk (blk_below (g := gb307) (o := .cells #[.bool a0_0, .int .i64 a0_1, .int .i64 a0_2, .int .i64 a0_3] 30 (0, 0)) (by (with_reducible repeat (first | apply blk_drewN | apply blk_drew | apply blk_alloc)); exact BK307.out) hb); have n3_ := Aside0.mk (blk_below (g := gb321) (o := .cells #[.bool t316, .int .i64 t317, .int .i64 t318, .int .i64 t319] 32 (0, 0)) (by (with_reducible repeat (first | apply blk_drewN | apply blk_drew | apply blk_alloc)); exact BK321.out) hb); have n4_ := Aside0.mk (below_step (by repeat (first | (with_reducible first | exact HB.out | apply below_alloc | apply pw_below_drewN | apply below_drew1 | refine below_set ?_ GE307.out | refine below_set ?_ GE321.out) | exact HB.out)) hb); clear HO315; clear HO324; clear BK307; clear BK321; clear HB; have HO315 := n0_; have HO324 := n1_; have BK307 := n2_; have BK321 := n3_; have HB := n4_; clear n0_ n1_ n2_ n3_ n4_; (try clear hb); (try clear hb2); (try clear hk); (try clear hi)) | ((with_reducible refine gate_dst (N := 11) rfl ?_); refine box_event ?hg (N := 11) ?hd (cs := #[.bool false, .int .i64 0, .int .i64 0, .int .i64 0]) (t := 32) ?hr ?_; (case hd => rfl); (case hg => rfl); (case hr => first | (go_simp; done) | (go_simp; rfl)); intro gb334 hg w28 hbox hb; have n0_ := Aside0.mk (Kd.R_below (Kd.R_elderB (by (with_reducible repeat (first | apply Kd.R_alloc | apply Kd.R_drewN | apply Kd.R_drew)); exact HO315.out) gb334 (Nat.le_of_eq hg.symm)) hb); have n1_ := Aside0.mk (Kd.R_below (Kd.R_elderB (by (with_reducible repeat (first | apply Kd.R_alloc | apply Kd.R_drewN | apply Kd.R_drew)); exact HO324.out) gb334 (Nat.le_of_eq hg.symm)) hb); have n2_ := Aside0.mk (blk_below (g := gb307) (o := .cells #[.bool a0_0, .int .i64 a0_1, .int .i64 a0_2, .int .i64 a0_3] 30 (0, 0)) (by (with_reducible repeat (first | apply blk_drewN | apply blk_drew | apply blk_alloc)); exact BK307.out) hb); have n3_ := Aside0.mk (blk_below (g := gb321) (o := .cells #[.bool t316, .int .i64 t317, .int .i64 t318, .int .i64 t319] 32 (0, 0)) (by (with_reducible repeat (first | apply blk_drewN | apply blk_drew | apply blk_alloc)); exact BK321.out) hb); have n4_ := Aside0.mk (below_step (by repeat (first | (with_reducible first | exact HB.out | apply below_alloc | apply pw_below_drewN | apply below_drew1 | refine below_set ?_ GE307.out | refine below_set ?_ GE321.out) | exact HB.out)) hb); have n5_ := Aside0.mk (hbox); have n6_ := Aside0.mk ((by rw [hg]; exact (below_size (by repeat (first | (with_reducible first | exact HB.out | apply below_alloc | apply pw_below_drewN | apply below_drew1 | refine below_set ?_ GE307.out | refine below_set ?_ GE321.out) | exact HB.out))) : w.heap.size ≤ gb334)); have n7_ := Aside0.mk ((by rw [hg]; exact (below_size (by repeat (first | (with_reducible first | exact HB.out | apply below_alloc | apply pw_below_drewN | apply below_drew1 | refine below_set ?_ GE307.out | refine below_set ?_ GE321.out) | exact HB.out))) : w.heap.size ≤ gb334)); have n8_ := Aside0.mk ((by rw [hg]; exact Nat.ne_of_lt (blk_lt (g := gb307) (o := .cells #[.bool a0_0, .int .i64 a0_1, .int .i64 a0_2, .int .i64 a0_3] 30 (0, 0)) (by (with_reducible repeat (first | apply blk_drewN | apply blk_drew | apply blk_alloc)); exact BK307.out)) : gb307 ≠ gb334)); have n9_ := Aside0.mk ((by rw [hg]; exact Nat.ne_of_gt (blk_lt (g := gb307) (o := .cells #[.bool a0_0, .int .i64 a0_1, .int .i64 a0_2, .int .i64 a0_3] 30 (0, 0)) (by (with_reducible repeat (first | apply blk_drewN | apply blk_drew | apply blk_alloc)); exact BK307.out)) : gb334 ≠ gb307)); have n10_ := Aside0.mk ((by rw [hg]; exact Nat.ne_of_lt (blk_lt (g := gb321) (o := .cells #[.bool t316, .int .i64 t317, .int .i64 t318, .int .i64 t319] 32 (0, 0)) (by (with_reducible repeat (first | apply blk_drewN | apply blk_drew | apply blk_alloc)); exact BK321.out)) : gb321 ≠ gb334)); have n11_ := Aside0.mk ((by rw [hg]; exact Nat.ne_of_gt (blk_lt (g := gb321) (o := .cells #[.bool t316, .int .i64 t317, .int .i64 t318, .int .i64 t319] 32 (0, 0)) (by (with_reducible repeat (first | apply blk_drewN | apply blk_drew | apply blk_alloc)); exact BK321.out)) : gb334 ≠ gb321)); clear HO315; clear HO324; clear BK307; clear BK321; clear HB; have HO315 := n0_; have HO324 := n1_; have BK307 := n2_; have BK321 := n3_; have HB := n4_; have BK334 := n5_; have GW334 := n6_; have GE334 := n7_; have NB307_334 := n8_; have NB334_307 := n9_; have NB321_334 := n10_; have NB334_321 := n11_; clear n0_ n1_ n2_ n3_ n4_ n5_ n6_ n7_ n8_ n9_ n10_ n11_; clear hb hbox hg; have hnb29 := NB334_307.out; have hnc29 := NB307_334.out; have hnb30 := NB334_321.out; have hnc30 := NB321_334.out; have hcz31_0 : w28.cell? ⟨gb334, 0, none⟩ = some (.bool false) := (blk_cell BK334.out 0).trans rfl; have hcz31_1 : w28.cell? ⟨gb334, 1, none⟩ = some (.int .i64 0) := (blk_cell BK334.out 1).trans rfl; have hcz31_2 : w28.cell? ⟨gb334, 2, none⟩ = some (.int .i64 0) := (blk_cell BK334.out 2).trans rfl; have hcz31_3 : w28.cell? ⟨gb334, 3, none⟩ = some (.int .i64 0) := (blk_cell BK334.out 3).trans rfl; have hfz31_0 := blk_frozen BK334.out 0; have hfz31_1 := blk_frozen BK334.out 1; have hfz31_2 := blk_frozen BK334.out 2; have hfz31_3 := blk_frozen BK334.out 3))
  (try simp only [Act.put, List.setIfInBounds_toArray, List.set_cons_zero, List.set_cons_succ])
  go_cut [45] (fun v45 wc => ∃ (kq : Nat) (x45_12 : Bool), v45 = .bool x45_12 ∧ Aside0 (laws_FnExactFirstFree.j0 kq l1 t322 x45_12 = some r) ∧ Aside0 (kq ≤ k) ∧ Aside0 (Kd.R k32 32 wc w.heap.size (fun k_ => k_ ≠ gb321 ∧ k_ ≠ gb334) (.slice Ao26 t322.length co26) t322) ∧ Aside0 (wc.heap[gb307]? = some (.cells #[.bool a0_0, .int .i64 a0_1, .int .i64 a0_2, .int .i64 a0_3] 30 (0, 0))) ∧ Aside0 (wc.heap[gb321]? = some (.cells #[.bool t316, .int .i64 t317, .int .i64 t318, .int .i64 t319] 32 (0, 0))) ∧ Aside0 (wc.heap[gb334]? = some (.cells #[.bool t329, .int .i64 t330, .int .i64 t331, .int .i64 t332] 32 (0, 0))) ∧ Aside0 (Below w.heap.size w wc))
  case first =>
   have H := HC13.out
   clear HC13
   replace H := Option.bind_eq_some_iff.mp H
   obtain ⟨t335, A320, H⟩ := H
   replace H : (if t335 = true then (laws_FnExactFirstFree.j0 k l1 t322 (t333 != t320)) else (laws_FnExactFirstFree.j0 k l1 t322 true)) = some r := H
   have A32 := Aside0.mk A320
   clear A320
   by_cases c33 : t335 = true
   ·subst c33
    have H1 : (laws_FnExactFirstFree.j0 k l1 t322 (t333 != t320)) = some r := by rw [if_pos rfl] at H; exact H
    clear H
    have H := H1
    clear H1
    have H' := Aside0.mk H
    clear H
    have hnb34 := NB334_307.out
    have hnc34 := NB307_334.out
    have hnb35 := NB334_321.out
    have hnc35 := NB321_334.out
    have hcz36_0 : w28.cell? ⟨gb334, 0, none⟩ = some (.bool false) := (blk_cell BK334.out 0).trans rfl
    have hcz36_1 : w28.cell? ⟨gb334, 1, none⟩ = some (.int .i64 0) := (blk_cell BK334.out 1).trans rfl
    have hcz36_2 : w28.cell? ⟨gb334, 2, none⟩ = some (.int .i64 0) := (blk_cell BK334.out 2).trans rfl
    have hcz36_3 : w28.cell? ⟨gb334, 3, none⟩ = some (.int .i64 0) := (blk_cell BK334.out 3).trans rfl
    have hfz36_0 := blk_frozen BK334.out 0
    have hfz36_1 := blk_frozen BK334.out 1
    have hfz36_2 := blk_frozen BK334.out 2
    have hfz36_3 := blk_frozen BK334.out 3
    have hnb37 := NB321_307.out
    have hnc37 := NB307_321.out
    have hcz38_0 : w28.cell? ⟨gb321, 0, none⟩ = some (.bool t316) := (blk_cell BK321.out 0).trans rfl
    have hcz38_1 : w28.cell? ⟨gb321, 1, none⟩ = some (.int .i64 t317) := (blk_cell BK321.out 1).trans rfl
    have hcz38_2 : w28.cell? ⟨gb321, 2, none⟩ = some (.int .i64 t318) := (blk_cell BK321.out 2).trans rfl
    have hcz38_3 : w28.cell? ⟨gb321, 3, none⟩ = some (.int .i64 t319) := (blk_cell BK321.out 3).trans rfl
    have hfz38_0 := blk_frozen BK321.out 0
    have hfz38_1 := blk_frozen BK321.out 1
    have hfz38_2 := blk_frozen BK321.out 2
    have hfz38_3 := blk_frozen BK321.out 3
    go_wp2_with (first | ((with_reducible refine gate_callee (f := 21) rfl ?_); refine goesL_ (some 39) rfl rfl Try.func21 (by kernel_rfl) rfl #[.agg #[.bool t329, .int .i64 t330, .int .i64 t331, .int .i64 t332], .agg #[.bool t316, .int .i64 t317, .int .i64 t318, .int .i64 t319]] rfl (by (try simp only [List.map_toArray, List.map_cons, List.map_nil]); first | done | rfl | (simp only [List.length_drop, List.length_take]; rfl)) ?_; (with_reducible refine (laws_eqPrefix.calls t329 t330 t331 t332 t316 t317 t318 t319 true _ A32.out).mono ?_); rintro e w39 ⟨rfl, hb⟩; refine ⟨_, rfl, ?_⟩; have n0_ := Aside0.mk (Kd.R_below (by (with_reducible repeat (first | apply Kd.R_alloc | apply Kd.R_drewN | apply Kd.R_drew)); exact (Kd.R_mono (Kd.R_far (p := ⟨gb334, 3, none⟩) (Kd.R_far (p := ⟨gb334, 2, none⟩) (Kd.R_far (p := ⟨gb334, 1, none⟩) (Kd.R_far (p := ⟨gb334, 0, none⟩) (Kd.R_mono HO315.out (fun k_ hk => (⟨hk, hk.2⟩ : _ ∧ k_ ≠ gb334))) (fun _ hk => hk.2) (.bool t329)) (fun _ hk => hk.2) (.int .i64 t330)) (fun _ hk => hk.2) (.int .i64 t331)) (fun _ hk => hk.2) (.int .i64 t332)) (fun _ h_ => h_.1))) hb); have n1_ := Aside0.mk (Kd.R_below (by (with_reducible repeat (first | apply Kd.R_alloc | apply Kd.R_drewN | apply Kd.R_drew)); exact (Kd.R_mono (Kd.R_far (p := ⟨gb334, 3, none⟩) (Kd.R_far (p := ⟨gb334, 2, none⟩) (Kd.R_far (p := ⟨gb334, 1, none⟩) (Kd.R_far (p := ⟨gb334, 0, none⟩) (Kd.R_mono HO324.out (fun k_ hk => (⟨hk, hk.2⟩ : _ ∧ k_ ≠ gb334))) (fun _ hk => hk.2) (.bool t329)) (fun _ hk => hk.2) (.int .i64 t330)) (fun _ hk => hk.2) (.int .i64 t331)) (fun _ hk => hk.2) (.int .i64 t332)) (fun _ h_ => h_.1))) hb); have n2_ := Aside0.mk (blk_below (g := gb307) (o := .cells #[.bool a0_0, .int .i64 a0_1, .int .i64 a0_2, .int .i64 a0_3] 30 (0, 0)) (by (with_reducible repeat (first | apply blk_drewN | apply blk_drew | apply blk_alloc)); refine blk_far ?_ NB307_334.out _; (with_reducible repeat (first | apply blk_drewN | apply blk_drew | apply blk_alloc)); refine blk_far ?_ NB307_334.out _; (with_reducible repeat (first | apply blk_drewN | apply blk_drew | apply blk_alloc)); refine blk_far ?_ NB307_334.out _; (with_reducible repeat (first | apply blk_drewN | apply blk_drew | apply blk_alloc)); refine blk_far ?_ NB307_334.out _; (with_reducible repeat (first | apply blk_drewN | apply blk_drew | apply blk_alloc)); exact BK307.out) hb); have n3_ := Aside0.mk (blk_below (g := gb321) (o := .cells #[.bool t316, .int .i64 t317, .int .i64 t318, .int .i64 t319] 32 (0, 0)) (by (with_reducible repeat (first | apply blk_drewN | apply blk_drew | apply blk_alloc)); refine blk_far ?_ NB321_334.out _; (with_reducible repeat (first | apply blk_drewN | apply blk_drew | apply blk_alloc)); refine blk_far ?_ NB321_334.out _; (with_reducible repeat (first | apply blk_drewN | apply blk_drew | apply blk_alloc)); refine blk_far ?_ NB321_334.out _; (with_reducible repeat (first | apply blk_drewN | apply blk_drew | apply blk_alloc)); refine blk_far ?_ NB321_334.out _; (with_reducible repeat (first | apply blk_drewN | apply blk_drew | apply blk_alloc)); exact BK321.out) hb); have n4_ := Aside0.mk (blk_below (g := gb334) (o := .cells #[.bool t329, .int .i64 t330, .int .i64 t331, .int .i64 t332] 32 (0, 0)) (by (with_reducible repeat (first | apply blk_drewN | apply blk_drew | apply blk_alloc)); refine blk_put (cs := #[.bool t329, .int .i64 t330, .int .i64 t331, .int .i64 0]) ?_ 3 _ rfl; (with_reducible repeat (first | apply blk_drewN | apply blk_drew | apply blk_alloc)); refine blk_put (cs := #[.bool t329, .int .i64 t330, .int .i64 0, .int .i64 0]) ?_ 2 _ rfl; (with_reducible repeat (first | apply blk_drewN | apply blk_drew | apply blk_alloc)); refine blk_put (cs := #[.bool t329, .int .i64 0, .int .i64 0, .int .i64 0]) ?_ 1 _ rfl; (with_reducible repeat (first | apply blk_drewN | apply blk_drew | apply blk_alloc)); refine blk_put (cs := #[.bool false, .int .i64 0, .int .i64 0, .int .i64 0]) ?_ 0 _ rfl; (with_reducible repeat (first | apply blk_drewN | apply blk_drew | apply blk_alloc)); exact BK334.out) hb); have n5_ := Aside0.mk (below_step (by repeat (first | (with_reducible first | exact HB.out | apply below_alloc | apply pw_below_drewN | apply below_drew1 | refine below_set ?_ GE307.out | refine below_set ?_ GE321.out | refine below_set ?_ GE334.out) | exact HB.out)) hb); clear HO315; clear HO324; clear BK307; clear BK321; clear BK334; clear HB; have HO315 := n0_; have HO324 := n1_; have BK307 := n2_; have BK321 := n3_; have BK334 := n4_; have HB := n5_; clear n0_ n1_ n2_ n3_ n4_ n5_; (try clear hb); (try clear hb2); (try clear hk); (try clear hi)))
    go_meet
    case rel => exact ⟨_, ((t333 != t320)), (by first | rfl | (simp; done) | (simp [*]; done)), H', ⟨by first | omega | exact Nat.le_refl _⟩, ⟨by (with_reducible repeat (first | apply Kd.R_alloc | apply Kd.R_drewN | apply Kd.R_drew)); exact Kd.R_mono HO324.out (fun _ hk => ⟨hk.1.2, hk.2⟩)⟩, ⟨by (with_reducible repeat (first | apply blk_drewN | apply blk_drew | apply blk_alloc)); exact BK307.out⟩, ⟨by (with_reducible repeat (first | apply blk_drewN | apply blk_drew | apply blk_alloc)); exact BK321.out⟩, ⟨by (with_reducible repeat (first | apply blk_drewN | apply blk_drew | apply blk_alloc)); exact BK334.out⟩, ⟨by repeat (first | (with_reducible first | exact HB.out | apply below_alloc | apply pw_below_drewN | apply below_drew1 | refine below_set ?_ GE307.out | refine below_set ?_ GE321.out | refine below_set ?_ GE334.out) | exact HB.out)⟩⟩
   ·replace c33 := Bool.eq_false_iff.mpr c33
    subst c33
    have H1 : (laws_FnExactFirstFree.j0 k l1 t322 true) = some r := by rw [if_neg (show ¬ (false = true) by decide)] at H; exact H
    clear H
    have H := H1
    clear H1
    have H' := Aside0.mk H
    clear H
    have hnb40 := NB334_307.out
    have hnc40 := NB307_334.out
    have hnb41 := NB334_321.out
    have hnc41 := NB321_334.out
    have hcz42_0 : w28.cell? ⟨gb334, 0, none⟩ = some (.bool false) := (blk_cell BK334.out 0).trans rfl
    have hcz42_1 : w28.cell? ⟨gb334, 1, none⟩ = some (.int .i64 0) := (blk_cell BK334.out 1).trans rfl
    have hcz42_2 : w28.cell? ⟨gb334, 2, none⟩ = some (.int .i64 0) := (blk_cell BK334.out 2).trans rfl
    have hcz42_3 : w28.cell? ⟨gb334, 3, none⟩ = some (.int .i64 0) := (blk_cell BK334.out 3).trans rfl
    have hfz42_0 := blk_frozen BK334.out 0
    have hfz42_1 := blk_frozen BK334.out 1
    have hfz42_2 := blk_frozen BK334.out 2
    have hfz42_3 := blk_frozen BK334.out 3
    have hnb43 := NB321_307.out
    have hnc43 := NB307_321.out
    have hcz44_0 : w28.cell? ⟨gb321, 0, none⟩ = some (.bool t316) := (blk_cell BK321.out 0).trans rfl
    have hcz44_1 : w28.cell? ⟨gb321, 1, none⟩ = some (.int .i64 t317) := (blk_cell BK321.out 1).trans rfl
    have hcz44_2 : w28.cell? ⟨gb321, 2, none⟩ = some (.int .i64 t318) := (blk_cell BK321.out 2).trans rfl
    have hcz44_3 : w28.cell? ⟨gb321, 3, none⟩ = some (.int .i64 t319) := (blk_cell BK321.out 3).trans rfl
    have hfz44_0 := blk_frozen BK321.out 0
    have hfz44_1 := blk_frozen BK321.out 1
    have hfz44_2 := blk_frozen BK321.out 2
    have hfz44_3 := blk_frozen BK321.out 3
    go_wp2_with (first | ((with_reducible refine gate_callee (f := 21) rfl ?_); refine goesL_ (some 39) rfl rfl Try.func21 (by kernel_rfl) rfl #[.agg #[.bool t329, .int .i64 t330, .int .i64 t331, .int .i64 t332], .agg #[.bool t316, .int .i64 t317, .int .i64 t318, .int .i64 t319]] rfl (by (try simp only [List.map_toArray, List.map_cons, List.map_nil]); first | done | rfl | (simp only [List.length_drop, List.length_take]; rfl)) ?_; (with_reducible refine (laws_eqPrefix.calls t329 t330 t331 t332 t316 t317 t318 t319 false _ A32.out).mono ?_); rintro e w45 ⟨rfl, hb⟩; refine ⟨_, rfl, ?_⟩; have n0_ := Aside0.mk (Kd.R_below (by (with_reducible repeat (first | apply Kd.R_alloc | apply Kd.R_drewN | apply Kd.R_drew)); exact (Kd.R_mono (Kd.R_far (p := ⟨gb334, 3, none⟩) (Kd.R_far (p := ⟨gb334, 2, none⟩) (Kd.R_far (p := ⟨gb334, 1, none⟩) (Kd.R_far (p := ⟨gb334, 0, none⟩) (Kd.R_mono HO315.out (fun k_ hk => (⟨hk, hk.2⟩ : _ ∧ k_ ≠ gb334))) (fun _ hk => hk.2) (.bool t329)) (fun _ hk => hk.2) (.int .i64 t330)) (fun _ hk => hk.2) (.int .i64 t331)) (fun _ hk => hk.2) (.int .i64 t332)) (fun _ h_ => h_.1))) hb); have n1_ := Aside0.mk (Kd.R_below (by (with_reducible repeat (first | apply Kd.R_alloc | apply Kd.R_drewN | apply Kd.R_drew)); exact (Kd.R_mono (Kd.R_far (p := ⟨gb334, 3, none⟩) (Kd.R_far (p := ⟨gb334, 2, none⟩) (Kd.R_far (p := ⟨gb334, 1, none⟩) (Kd.R_far (p := ⟨gb334, 0, none⟩) (Kd.R_mono HO324.out (fun k_ hk => (⟨hk, hk.2⟩ : _ ∧ k_ ≠ gb334))) (fun _ hk => hk.2) (.bool t329)) (fun _ hk => hk.2) (.int .i64 t330)) (fun _ hk => hk.2) (.int .i64 t331)) (fun _ hk => hk.2) (.int .i64 t332)) (fun _ h_ => h_.1))) hb); have n2_ := Aside0.mk (blk_below (g := gb307) (o := .cells #[.bool a0_0, .int .i64 a0_1, .int .i64 a0_2, .int .i64 a0_3] 30 (0, 0)) (by (with_reducible repeat (first | apply blk_drewN | apply blk_drew | apply blk_alloc)); refine blk_far ?_ NB307_334.out _; (with_reducible repeat (first | apply blk_drewN | apply blk_drew | apply blk_alloc)); refine blk_far ?_ NB307_334.out _; (with_reducible repeat (first | apply blk_drewN | apply blk_drew | apply blk_alloc)); refine blk_far ?_ NB307_334.out _; (with_reducible repeat (first | apply blk_drewN | apply blk_drew | apply blk_alloc)); refine blk_far ?_ NB307_334.out _; (with_reducible repeat (first | apply blk_drewN | apply blk_drew | apply blk_alloc)); exact BK307.out) hb); have n3_ := Aside0.mk (blk_below (g := gb321) (o := .cells #[.bool t316, .int .i64 t317, .int .i64 t318, .int .i64 t319] 32 (0, 0)) (by (with_reducible repeat (first | apply blk_drewN | apply blk_drew | apply blk_alloc)); refine blk_far ?_ NB321_334.out _; (with_reducible repeat (first | apply blk_drewN | apply blk_drew | apply blk_alloc)); refine blk_far ?_ NB321_334.out _; (with_reducible repeat (first | apply blk_drewN | apply blk_drew | apply blk_alloc)); refine blk_far ?_ NB321_334.out _; (with_reducible repeat (first | apply blk_drewN | apply blk_drew | apply blk_alloc)); refine blk_far ?_ NB321_334.out _; (with_reducible repeat (first | apply blk_drewN | apply blk_drew | apply blk_alloc)); exact BK321.out) hb); have n4_ := Aside0.mk (blk_below (g := gb334) (o := .cells #[.bool t329, .int .i64 t330, .int .i64 t331, .int .i64 t332] 32 (0, 0)) (by (with_reducible repeat (first | apply blk_drewN | apply blk_drew | apply blk_alloc)); refine blk_put (cs := #[.bool t329, .int .i64 t330, .int .i64 t331, .int .i64 0]) ?_ 3 _ rfl; (with_reducible repeat (first | apply blk_drewN | apply blk_drew | apply blk_alloc)); refine blk_put (cs := #[.bool t329, .int .i64 t330, .int .i64 0, .int .i64 0]) ?_ 2 _ rfl; (with_reducible repeat (first | apply blk_drewN | apply blk_drew | apply blk_alloc)); refine blk_put (cs := #[.bool t329, .int .i64 0, .int .i64 0, .int .i64 0]) ?_ 1 _ rfl; (with_reducible repeat (first | apply blk_drewN | apply blk_drew | apply blk_alloc)); refine blk_put (cs := #[.bool false, .int .i64 0, .int .i64 0, .int .i64 0]) ?_ 0 _ rfl; (with_reducible repeat (first | apply blk_drewN | apply blk_drew | apply blk_alloc)); exact BK334.out) hb); have n5_ := Aside0.mk (below_step (by repeat (first | (with_reducible first | exact HB.out | apply below_alloc | apply pw_below_drewN | apply below_drew1 | refine below_set ?_ GE307.out | refine below_set ?_ GE321.out | refine below_set ?_ GE334.out) | exact HB.out)) hb); clear HO315; clear HO324; clear BK307; clear BK321; clear BK334; clear HB; have HO315 := n0_; have HO324 := n1_; have BK307 := n2_; have BK321 := n3_; have BK334 := n4_; have HB := n5_; clear n0_ n1_ n2_ n3_ n4_ n5_; (try clear hb); (try clear hb2); (try clear hk); (try clear hi)))
    go_meet
    case rel => exact ⟨_, (true), (by first | rfl | (simp; done) | (simp [*]; done)), H', ⟨by first | omega | exact Nat.le_refl _⟩, ⟨by (with_reducible repeat (first | apply Kd.R_alloc | apply Kd.R_drewN | apply Kd.R_drew)); exact Kd.R_mono HO324.out (fun _ hk => ⟨hk.1.2, hk.2⟩)⟩, ⟨by (with_reducible repeat (first | apply blk_drewN | apply blk_drew | apply blk_alloc)); exact BK307.out⟩, ⟨by (with_reducible repeat (first | apply blk_drewN | apply blk_drew | apply blk_alloc)); exact BK321.out⟩, ⟨by (with_reducible repeat (first | apply blk_drewN | apply blk_drew | apply blk_alloc)); exact BK334.out⟩, ⟨by repeat (first | (with_reducible first | exact HB.out | apply below_alloc | apply pw_below_drewN | apply below_drew1 | refine below_set ?_ GE307.out | refine below_set ?_ GE321.out | refine below_set ?_ GE334.out) | exact HB.out)⟩⟩
  case rest =>
   clear HC13
   try clear c1
   try clear c2
   try clear p2
   try clear c3
   try clear c4
   try clear c5
   try clear c5b0
   try clear c13
   try clear c19
   try clear c21
   try clear c29
   try clear c30
   try clear c33
   try clear c34
   try clear c35
   try clear c37
   try clear c40
   try clear c41
   try clear c43
   try clear hcz15_0
   try clear hcz15_1
   try clear hcz15_2
   try clear hcz15_3
   try clear hcz22_0
   try clear hcz22_1
   try clear hcz22_2
   try clear hcz22_3
   try clear hcz24_0
   try clear hcz24_1
   try clear hcz24_2
   try clear hcz24_3
   try clear hcz31_0
   try clear hcz31_1
   try clear hcz31_2
   try clear hcz31_3
   try clear hcz36_0
   try clear hcz36_1
   try clear hcz36_2
   try clear hcz36_3
   try clear hcz38_0
   try clear hcz38_1
   try clear hcz38_2
   try clear hcz38_3
   try clear hcz42_0
   try clear hcz42_1
   try clear hcz42_2
   try clear hcz42_3
   try clear hcz44_0
   try clear hcz44_1
   try clear hcz44_2
   try clear hcz44_3
   try clear hfz15_0
   try clear hfz15_1
   try clear hfz15_2
   try clear hfz15_3
   try clear hfz22_0
   try clear hfz22_1
   try clear hfz22_2
   try clear hfz22_3
   try clear hfz24_0
   try clear hfz24_1
   try clear hfz24_2
   try clear hfz24_3
   try clear hfz31_0
   try clear hfz31_1
   try clear hfz31_2
   try clear hfz31_3
   try clear hfz36_0
   try clear hfz36_1
   try clear hfz36_2
   try clear hfz36_3
   try clear hfz38_0
   try clear hfz38_1
   try clear hfz38_2
   try clear hfz38_3
   try clear hfz42_0
   try clear hfz42_1
   try clear hfz42_2
   try clear hfz42_3
   try clear hfz44_0
   try clear hfz44_1
   try clear hfz44_2
   try clear hfz44_3
   obtain ⟨kq, x45_12, rfl, HA, HJ12, HO_10, BK307, BK321, BK334, HB⟩ := hcut
   cases kq with
   | zero => exact absurd HA.out (by simp [laws_FnExactFirstFree.j0])
   | succ kj12 =>
    have H := HA.out
    clear HA
    simp only [laws_FnExactFirstFree.j0] at H
    by_cases c46 : x45_12 = true
    ·subst c46
     have H1 : (some false) = some r := by rw [if_pos rfl] at H; exact H
     clear H
     have H := H1
     clear H1
     obtain rfl := Option.some.inj H
     go_wp2
     go_ret
     exact ⟨by first | rfl | (simp [errW_none, errW_some] <;> rfl) | (simp [*, errW_none, errW_some] <;> rfl), by repeat (first | (with_reducible first | exact HB.out | apply below_alloc | apply pw_below_drewN | apply below_drew1 | refine below_set ?_ GE307.out | refine below_set ?_ GE321.out | refine below_set ?_ GE334.out) | exact HB.out)⟩
    ·replace c46 := Bool.eq_false_iff.mpr c46
     subst c46
     have H1 : ((laws_toPrefixS.f kj12 l1).bind fun t336 => ((laws_eqPrefixS.f kj12 t322 t336).bind fun t339 => (if t339 = true then (some true) else (some false)))) = some r := by rw [if_neg (show ¬ (false = true) by decide)] at H; exact H
     clear H
     have H := H1
     clear H1
     replace H := Option.bind_eq_some_iff.mp H
     obtain ⟨t336, A470, H⟩ := H
     replace H : ((laws_eqPrefixS.f kj12 t322 t336).bind fun t339 => (if t339 = true then (some true) else (some false))) = some r := H
     have A47 := Aside0.mk A470
     clear A470
     replace H := Option.bind_eq_some_iff.mp H
     obtain ⟨t339, A480, H⟩ := H
     replace H : (if t339 = true then (some true) else (some false)) = some r := H
     have A48 := Aside0.mk A480
     clear A480
     by_cases c49 : t339 = true
     ·subst c49
      have H1 : (some true) = some r := by rw [if_pos rfl] at H; exact H
      clear H
      have H := H1
      clear H1
      obtain rfl := Option.some.inj H
      go_wp2_with (first | ((with_reducible refine gate_callee (f := 55) rfl ?_); refine goesL_ (some 48) rfl rfl Try.func55 (by kernel_rfl) rfl #[.slice A1 l1.length c1] rfl (by (try simp only [List.map_toArray, List.map_cons, List.map_nil]); first | done | rfl | (simp only [List.length_drop, List.length_take]; rfl)) ?_; (with_reducible refine (laws_toPrefixS.calls kj12 _ _ l1 t336 _ ?side1 ?side2 A47.out).mono ?_); (case side1 => repeat (first | exact (Kd.C_below HR1.out HB.out) | (with_reducible refine Kd.C_alloc ?_ _) | (with_reducible refine Kd.C_drewN ?_ _) | (with_reducible refine Kd.C_drew ?_))); (case side2 => exact HC1.out); rintro e w50 ⟨v337, rfl, ho0, hb⟩; refine ⟨_, rfl, ?_⟩; have n0_ := Aside0.mk (Kd.R_elder' (by (with_reducible repeat (first | apply Kd.R_alloc | apply Kd.R_drewN | apply Kd.R_drew)); exact HO_10.out) (Kd.R_base ho0) hb); have n1_ := Aside0.mk (Kd.R_lower (Kd.R_newB (Kd.R_newB (Kd.R_new' ho0 (Kd.R_lt (by (with_reducible repeat (first | apply Kd.R_alloc | apply Kd.R_drewN | apply Kd.R_drew)); exact HO_10.out))) (g := gb321) (o := .cells #[.bool t316, .int .i64 t317, .int .i64 t318, .int .i64 t319] 32 (0, 0)) (by (with_reducible repeat (first | apply blk_drewN | apply blk_drew | apply blk_alloc)); exact BK321.out)) (g := gb334) (o := .cells #[.bool t329, .int .i64 t330, .int .i64 t331, .int .i64 t332] 32 (0, 0)) (by (with_reducible repeat (first | apply blk_drewN | apply blk_drew | apply blk_alloc)); exact BK334.out)) (below_size (by repeat (first | (with_reducible first | exact HB.out | apply below_alloc | apply pw_below_drewN | apply below_drew1 | refine below_set ?_ GE307.out | refine below_set ?_ GE321.out | refine below_set ?_ GE334.out) | exact HB.out)))); have n2_ := Aside0.mk (blk_below (g := gb307) (o := .cells #[.bool a0_0, .int .i64 a0_1, .int .i64 a0_2, .int .i64 a0_3] 30 (0, 0)) (by (with_reducible repeat (first | apply blk_drewN | apply blk_drew | apply blk_alloc)); exact BK307.out) hb); have n3_ := Aside0.mk (blk_below (g := gb321) (o := .cells #[.bool t316, .int .i64 t317, .int .i64 t318, .int .i64 t319] 32 (0, 0)) (by (with_reducible repeat (first | apply blk_drewN | apply blk_drew | apply blk_alloc)); exact BK321.out) hb); have n4_ := Aside0.mk (blk_below (g := gb334) (o := .cells #[.bool t329, .int .i64 t330, .int .i64 t331, .int .i64 t332] 32 (0, 0)) (by (with_reducible repeat (first | apply blk_drewN | apply blk_drew | apply blk_alloc)); exact BK334.out) hb); have n5_ := Aside0.mk (below_step (by repeat (first | (with_reducible first | exact HB.out | apply below_alloc | apply pw_below_drewN | apply below_drew1 | refine below_set ?_ GE307.out | refine below_set ?_ GE321.out | refine below_set ?_ GE334.out) | exact HB.out)) hb); clear HO_10; clear BK307; clear BK321; clear BK334; clear HB; have HO_10 := n0_; have HO338 := n1_; have BK307 := n2_; have BK321 := n3_; have BK334 := n4_; have HB := n5_; clear n0_ n1_ n2_ n3_ n4_ n5_; (try clear hb); (try clear hb2); (try clear hk); (try clear hi); (try clear ho0); obtain ⟨Ao51, co51, eo51⟩ := Kd.R_slice HO338.out; subst eo51) | ((with_reducible refine gate_callee (f := 57) rfl ?_); refine goesL_ (some 49) rfl rfl Try.func57 (by kernel_rfl) rfl #[.slice Ao26 t322.length co26, .slice Ao51 t336.length co51] rfl (by (try simp only [List.map_toArray, List.map_cons, List.map_nil]); first | done | rfl | (simp only [List.length_drop, List.length_take]; rfl)) ?_; (with_reducible refine (laws_eqPrefixS.calls kj12 _ _ t322 _ _ t336 true _ ?side1 ?side2 ?side3 ?side4 A48.out).mono ?_); (case side1 => repeat (first | exact (Kd.R_reads' HO_10.out).2.2 | (with_reducible refine Kd.C_alloc ?_ _) | (with_reducible refine Kd.C_drewN ?_ _) | (with_reducible refine Kd.C_drew ?_))); (case side2 => exact (Kd.R_reads' HO_10.out).2.1); (case side3 => repeat (first | exact (Kd.R_reads' HO338.out).2.2 | (with_reducible refine Kd.C_alloc ?_ _) | (with_reducible refine Kd.C_drewN ?_ _) | (with_reducible refine Kd.C_drew ?_))); (case side4 => exact (Kd.R_reads' HO338.out).2.1); rintro e w52 ⟨rfl, hb⟩; refine ⟨_, rfl, ?_⟩; have n0_ := Aside0.mk (Kd.R_below (by (with_reducible repeat (first | apply Kd.R_alloc | apply Kd.R_drewN | apply Kd.R_drew)); exact HO_10.out) hb); have n1_ := Aside0.mk (Kd.R_below (by (with_reducible repeat (first | apply Kd.R_alloc | apply Kd.R_drewN | apply Kd.R_drew)); exact HO338.out) hb); have n2_ := Aside0.mk (blk_below (g := gb307) (o := .cells #[.bool a0_0, .int .i64 a0_1, .int .i64 a0_2, .int .i64 a0_3] 30 (0, 0)) (by (with_reducible repeat (first | apply blk_drewN | apply blk_drew | apply blk_alloc)); exact BK307.out) hb); have n3_ := Aside0.mk (blk_below (g := gb321) (o := .cells #[.bool t316, .int .i64 t317, .int .i64 t318, .int .i64 t319] 32 (0, 0)) (by (with_reducible repeat (first | apply blk_drewN | apply blk_drew | apply blk_alloc)); exact BK321.out) hb); have n4_ := Aside0.mk (blk_below (g := gb334) (o := .cells #[.bool t329, .int .i64 t330, .int .i64 t331, .int .i64 t332] 32 (0, 0)) (by (with_reducible repeat (first | apply blk_drewN | apply blk_drew | apply blk_alloc)); exact BK334.out) hb); have n5_ := Aside0.mk (below_step (by repeat (first | (with_reducible first | exact HB.out | apply below_alloc | apply pw_below_drewN | apply below_drew1 | refine below_set ?_ GE307.out | refine below_set ?_ GE321.out | refine below_set ?_ GE334.out) | exact HB.out)) hb); clear HO_10; clear HO338; clear BK307; clear BK321; clear BK334; clear HB; have HO_10 := n0_; have HO338 := n1_; have BK307 := n2_; have BK321 := n3_; have BK334 := n4_; have HB := n5_; clear n0_ n1_ n2_ n3_ n4_ n5_; (try clear hb); (try clear hb2); (try clear hk); (try clear hi)))
      go_ret
      exact ⟨by first | rfl | (simp [errW_none, errW_some] <;> rfl) | (simp [*, errW_none, errW_some] <;> rfl), by repeat (first | (with_reducible first | exact HB.out | apply below_alloc | apply pw_below_drewN | apply below_drew1 | refine below_set ?_ GE307.out | refine below_set ?_ GE321.out | refine below_set ?_ GE334.out) | exact HB.out)⟩
     ·replace c49 := Bool.eq_false_iff.mpr c49
      subst c49
      have H1 : (some false) = some r := by rw [if_neg (show ¬ (false = true) by decide)] at H; exact H
      clear H
      have H := H1
      clear H1
      obtain rfl := Option.some.inj H
      go_wp2_with (first | ((with_reducible refine gate_callee (f := 55) rfl ?_); refine goesL_ (some 48) rfl rfl Try.func55 (by kernel_rfl) rfl #[.slice A1 l1.length c1] rfl (by (try simp only [List.map_toArray, List.map_cons, List.map_nil]); first | done | rfl | (simp only [List.length_drop, List.length_take]; rfl)) ?_; (with_reducible refine (laws_toPrefixS.calls kj12 _ _ l1 t336 _ ?side1 ?side2 A47.out).mono ?_); (case side1 => repeat (first | exact (Kd.C_below HR1.out HB.out) | (with_reducible refine Kd.C_alloc ?_ _) | (with_reducible refine Kd.C_drewN ?_ _) | (with_reducible refine Kd.C_drew ?_))); (case side2 => exact HC1.out); rintro e w53 ⟨v337, rfl, ho0, hb⟩; refine ⟨_, rfl, ?_⟩; have n0_ := Aside0.mk (Kd.R_elder' (by (with_reducible repeat (first | apply Kd.R_alloc | apply Kd.R_drewN | apply Kd.R_drew)); exact HO_10.out) (Kd.R_base ho0) hb); have n1_ := Aside0.mk (Kd.R_lower (Kd.R_newB (Kd.R_newB (Kd.R_new' ho0 (Kd.R_lt (by (with_reducible repeat (first | apply Kd.R_alloc | apply Kd.R_drewN | apply Kd.R_drew)); exact HO_10.out))) (g := gb321) (o := .cells #[.bool t316, .int .i64 t317, .int .i64 t318, .int .i64 t319] 32 (0, 0)) (by (with_reducible repeat (first | apply blk_drewN | apply blk_drew | apply blk_alloc)); exact BK321.out)) (g := gb334) (o := .cells #[.bool t329, .int .i64 t330, .int .i64 t331, .int .i64 t332] 32 (0, 0)) (by (with_reducible repeat (first | apply blk_drewN | apply blk_drew | apply blk_alloc)); exact BK334.out)) (below_size (by repeat (first | (with_reducible first | exact HB.out | apply below_alloc | apply pw_below_drewN | apply below_drew1 | refine below_set ?_ GE307.out | refine below_set ?_ GE321.out | refine below_set ?_ GE334.out) | exact HB.out)))); have n2_ := Aside0.mk (blk_below (g := gb307) (o := .cells #[.bool a0_0, .int .i64 a0_1, .int .i64 a0_2, .int .i64 a0_3] 30 (0, 0)) (by (with_reducible repeat (first | apply blk_drewN | apply blk_drew | apply blk_alloc)); exact BK307.out) hb); have n3_ := Aside0.mk (blk_below (g := gb321) (o := .cells #[.bool t316, .int .i64 t317, .int .i64 t318, .int .i64 t319] 32 (0, 0)) (by (with_reducible repeat (first | apply blk_drewN | apply blk_drew | apply blk_alloc)); exact BK321.out) hb); have n4_ := Aside0.mk (blk_below (g := gb334) (o := .cells #[.bool t329, .int .i64 t330, .int .i64 t331, .int .i64 t332] 32 (0, 0)) (by (with_reducible repeat (first | apply blk_drewN | apply blk_drew | apply blk_alloc)); exact BK334.out) hb); have n5_ := Aside0.mk (below_step (by repeat (first | (with_reducible first | exact HB.out | apply below_alloc | apply pw_below_drewN | apply below_drew1 | refine below_set ?_ GE307.out | refine below_set ?_ GE321.out | refine below_set ?_ GE334.out) | exact HB.out)) hb); clear HO_10; clear BK307; clear BK321; clear BK334; clear HB; have HO_10 := n0_; have HO338 := n1_; have BK307 := n2_; have BK321 := n3_; have BK334 := n4_; have HB := n5_; clear n0_ n1_ n2_ n3_ n4_ n5_; (try clear hb); (try clear hb2); (try clear hk); (try clear hi); (try clear ho0); obtain ⟨Ao54, co54, eo54⟩ := Kd.R_slice HO338.out; subst eo54) | ((with_reducible refine gate_callee (f := 57) rfl ?_); refine goesL_ (some 49) rfl rfl Try.func57 (by kernel_rfl) rfl #[.slice Ao26 t322.length co26, .slice Ao54 t336.length co54] rfl (by (try simp only [List.map_toArray, List.map_cons, List.map_nil]); first | done | rfl | (simp only [List.length_drop, List.length_take]; rfl)) ?_; (with_reducible refine (laws_eqPrefixS.calls kj12 _ _ t322 _ _ t336 false _ ?side1 ?side2 ?side3 ?side4 A48.out).mono ?_); (case side1 => repeat (first | exact (Kd.R_reads' HO_10.out).2.2 | (with_reducible refine Kd.C_alloc ?_ _) | (with_reducible refine Kd.C_drewN ?_ _) | (with_reducible refine Kd.C_drew ?_))); (case side2 => exact (Kd.R_reads' HO_10.out).2.1); (case side3 => repeat (first | exact (Kd.R_reads' HO338.out).2.2 | (with_reducible refine Kd.C_alloc ?_ _) | (with_reducible refine Kd.C_drewN ?_ _) | (with_reducible refine Kd.C_drew ?_))); (case side4 => exact (Kd.R_reads' HO338.out).2.1); rintro e w55 ⟨rfl, hb⟩; refine ⟨_, rfl, ?_⟩; have n0_ := Aside0.mk (Kd.R_below (by (with_reducible repeat (first | apply Kd.R_alloc | apply Kd.R_drewN | apply Kd.R_drew)); exact HO_10.out) hb); have n1_ := Aside0.mk (Kd.R_below (by (with_reducible repeat (first | apply Kd.R_alloc | apply Kd.R_drewN | apply Kd.R_drew)); exact HO338.out) hb); have n2_ := Aside0.mk (blk_below (g := gb307) (o := .cells #[.bool a0_0, .int .i64 a0_1, .int .i64 a0_2, .int .i64 a0_3] 30 (0, 0)) (by (with_reducible repeat (first | apply blk_drewN | apply blk_drew | apply blk_alloc)); exact BK307.out) hb); have n3_ := Aside0.mk (blk_below (g := gb321) (o := .cells #[.bool t316, .int .i64 t317, .int .i64 t318, .int .i64 t319] 32 (0, 0)) (by (with_reducible repeat (first | apply blk_drewN | apply blk_drew | apply blk_alloc)); exact BK321.out) hb); have n4_ := Aside0.mk (blk_below (g := gb334) (o := .cells #[.bool t329, .int .i64 t330, .int .i64 t331, .int .i64 t332] 32 (0, 0)) (by (with_reducible repeat (first | apply blk_drewN | apply blk_drew | apply blk_alloc)); exact BK334.out) hb); have n5_ := Aside0.mk (below_step (by repeat (first | (with_reducible first | exact HB.out | apply below_alloc | apply pw_below_drewN | apply below_drew1 | refine below_set ?_ GE307.out | refine below_set ?_ GE321.out | refine below_set ?_ GE334.out) | exact HB.out)) hb); clear HO_10; clear HO338; clear BK307; clear BK321; clear BK334; clear HB; have HO_10 := n0_; have HO338 := n1_; have BK307 := n2_; have BK321 := n3_; have BK334 := n4_; have HB := n5_; clear n0_ n1_ n2_ n3_ n4_ n5_; (try clear hb); (try clear hb2); (try clear hk); (try clear hi)))
      go_ret
      exact ⟨by first | rfl | (simp [errW_none, errW_some] <;> rfl) | (simp [*, errW_none, errW_some] <;> rfl), by repeat (first | (with_reducible first | exact HB.out | apply below_alloc | apply pw_below_drewN | apply below_drew1 | refine below_set ?_ GE307.out | refine below_set ?_ GE321.out | refine below_set ?_ GE334.out) | exact HB.out)⟩

end Go.Proofs.Ytigmadccchofiaa.QFnExactFirstFree
