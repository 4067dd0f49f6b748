-- Written by a program of this session (wip/myprint.py); Lean checks it.
import Derived.Test.YtfidfiacjocooaaQFnExactGetAddrx0
import Derived.Test.YtfidfiacjocooaaQFnExactGetAddrx1
namespace Go.Proofs.Ytfidfiacjocooaa.QFnExactGetAddr
open Go.RowKit Go.Proofs.YtfidfiacjocooaaW.PrintWords Go.Proofs.YtfidfiacjocooaaW.PrintLast Go.Proofs.YtfidfiacjocooaaW.PrintMore
attribute [local go_sem] max2_int min2_int max_two min_two max_three min_three max_four min_four   -- for this text's walks alone
set_option linter.unusedVariables false
set_option linter.unusedSimpArgs false

attribute [local go_sem] isSome_setCell
/-! ### impl_GetAddr: function 32 -/
mutual
def impl_GetAddr.j0 : Nat → List Int → Int → List Int → Bool → Option (Bool × Int × Int × Int × Bool)
  | 0, _, _, _, _ => none
  | k + 1, x0, x1, x7, x19 => if x19 = true then (if 4 ≤ (x7.length : Int) then ((impl_narrow.f k (x7.take 4)).bind fun t122 => (some (false, 0, t122, wrap64 (x1 + 5), true))) else (none)) else (if 0 ≤ x1 then (if x1 < (x0.length : Int) then (if (rd x0 x1) = 6 then (impl_GetAddr.j1 k x1 x7 (decide ((x7.length : Int) ≥ 16))) else (impl_GetAddr.j1 k x1 x7 false)) else (none)) else (none))
def impl_GetAddr.j1 : Nat → Int → List Int → Bool → Option (Bool × Int × Int × Int × Bool)
  | 0, _, _, _ => none
  | k + 1, x1, x7, x36 => if x36 = true then (if 8 ≤ (x7.length : Int) then ((impl_narrow.f k (x7.take 8)).bind fun t125 => (if 8 ≤ 16 then (if 16 ≤ (x7.length : Int) then ((impl_narrow.f k ((x7.take 16).drop 8)).bind fun t127 => (some (true, t125, t127, wrap64 (x1 + 17), true))) else (none)) else (none))) else (none)) else (some (false, 0, 0, 0, false))
end
def impl_GetAddr.f (k : Nat) (l0 : List Int) (a1 : Int) : Option (Bool × Int × Int × Int × Bool) := (impl_from.f a1 0 (wrap64 ((l0.length : Int) - 1))).bind fun t118 => (if t118 = true then (if 0 ≤ (wrap64 (a1 + 1)) then (if (wrap64 (a1 + 1)) ≤ (l0.length : Int) then (if 0 ≤ a1 then (if a1 < (l0.length : Int) then (if (rd l0 a1) = 4 then (impl_GetAddr.j0 k l0 a1 (l0.drop ((wrap64 (a1 + 1)) : Int).toNat) (decide (((l0.drop ((wrap64 (a1 + 1)) : Int).toNat).length : Int) ≥ 4))) else (impl_GetAddr.j0 k l0 a1 (l0.drop ((wrap64 (a1 + 1)) : Int).toNat) false)) else (none)) else (none)) else (none)) else (none)) else (some (false, 0, 0, 0, false)))
theorem impl_GetAddr.mono_l : ∀ k, (∀ y0 y1 y2 y3, LeO (impl_GetAddr.j0 k y0 y1 y2 y3) (impl_GetAddr.j0 (k + 1) y0 y1 y2 y3)) ∧ (∀ y0 y1 y2, LeO (impl_GetAddr.j1 k y0 y1 y2) (impl_GetAddr.j1 (k + 1) y0 y1 y2))
  | 0 => ⟨fun _ _ _ _ r h => by simp [impl_GetAddr.j0] at h, fun _ _ _ r h => by simp [impl_GetAddr.j1] at h⟩
  | k + 1 => by
    obtain ⟨ih0, ih1⟩ := impl_GetAddr.mono_l k
    refine ⟨?_, ?_⟩
    · intro y0 y1 y2 y3
      unfold impl_GetAddr.j0
      repeat' first
      | (with_reducible exact ih0 _ _ _ _)
      | (with_reducible exact ih1 _ _ _)
      | (with_reducible exact impl_narrow.mono _ _)
      | (with_reducible exact LeO.refl _)
      | (with_reducible exact LeO.none _)
      | (with_reducible refine LeO.ite ?_ ?_)
      | (with_reducible refine LeO.bind ?_ (fun _ => ?_))
      | exact ih0 _ _ _ _
      | exact ih1 _ _ _
      | exact impl_narrow.mono _ _
      | exact LeO.none _
      | refine LeO.ite ?_ ?_
      | refine LeO.bind ?_ (fun _ => ?_)
    · intro y0 y1 y2
      unfold impl_GetAddr.j1
      repeat' first
      | (with_reducible exact ih0 _ _ _ _)
      | (with_reducible exact ih1 _ _ _)
      | (with_reducible exact impl_narrow.mono _ _)
      | (with_reducible exact LeO.refl _)
      | (with_reducible exact LeO.none _)
      | (with_reducible refine LeO.ite ?_ ?_)
      | (with_reducible refine LeO.bind ?_ (fun _ => ?_))
      | exact ih0 _ _ _ _
      | exact ih1 _ _ _
      | exact impl_narrow.mono _ _
      | exact LeO.none _
      | refine LeO.ite ?_ ?_
      | refine LeO.bind ?_ (fun _ => ?_)
theorem impl_GetAddr.mono : ∀ a0 a1 k, LeO (impl_GetAddr.f k a0 a1) (impl_GetAddr.f (k + 1) a0 a1) := by
  intro a0 a1 k
  obtain ⟨ih0, ih1⟩ := impl_GetAddr.mono_l k
  unfold impl_GetAddr.f
  repeat' first
      | (with_reducible exact ih0 _ _ _ _)
      | (with_reducible exact ih1 _ _ _)
      | (with_reducible exact impl_narrow.mono _ _)
      | (with_reducible exact LeO.refl _)
      | (with_reducible exact LeO.none _)
      | (with_reducible refine LeO.ite ?_ ?_)
      | (with_reducible refine LeO.bind ?_ (fun _ => ?_))
      | exact ih0 _ _ _ _
      | exact ih1 _ _ _
      | exact impl_narrow.mono _ _
      | exact LeO.none _
      | refine LeO.ite ?_ ?_
      | refine LeO.bind ?_ (fun _ => ?_)
def impl_GetAddr.T7 : Bool × List (List Nat × List Nat) := (true, [([], []), ([0], [0]), ([1], [1]), ([], []), ([3], [3]), ([4, 2], [4]), ([2, 5], [2, 5]), ([], []), ([7], [7]), ([6, 5, 0, 1, 2, 3, 4, 5, 6], [6]), ([8, 9, 0, 1, 2, 3, 4, 5, 6, 7, 8, 9], [8]), ([10, 0, 1, 2, 3, 4, 5, 6, 7, 8, 9, 10], [])])
def impl_GetAddr.B7 : List Nat := [0, 1, 3, 0, 8, 31, 63, 0, 128, 127, 1023, 2047]
theorem impl_GetAddr.tab7 : rtab .any (opsOf Try.f32 7) = impl_GetAddr.T7 := by kernel_rfl
theorem impl_GetAddr.bits7 : waitsOk impl_GetAddr.T7.2 impl_GetAddr.B7 = true := by kernel_rfl
set_option maxHeartbeats 8000000 in
set_option maxRecDepth 100000 in
theorem impl_GetAddr.calls (k : Nat) (A0 : Option Addr) (c0 : Nat) (l0 : List Int) (a1 : Int) (r1 : Bool) (r2 : Int) (r3 : Int) (r4 : Int) (r5 : Bool) (w : World) (hr0 : Kd.C (Kd.int .u8) w A0 l0.length l0) (hc0 : l0.length ≤ c0) (h : impl_GetAddr.f k l0 a1 = some (r1, r2, r3, r4, r5)) :
    Calls Try.prog 32 #[.slice A0 l0.length c0, .int .i64 a1] w fun e w' => e = .returned (.tuple #[.agg #[.bool r1, .int .i64 r2, .int .i64 r3], .int .i64 r4, .bool r5]) ∧ Below w.heap.size w w' := by
  have hu26 := Try.underlying26
  have HR0 := Aside0.mk hr0
  have HC0 := Aside0.mk hc0
  clear hr0 hc0
  have HB := Aside0.mk (Below.refl w.heap.size w)
  have H : ((impl_from.f a1 0 (wrap64 ((l0.length : Int) - 1))).bind fun t118 => (if t118 = true then (if 0 ≤ (wrap64 (a1 + 1)) then (if (wrap64 (a1 + 1)) ≤ (l0.length : Int) then (if 0 ≤ a1 then (if a1 < (l0.length : Int) then (if (rd l0 a1) = 4 then (impl_GetAddr.j0 k l0 a1 (l0.drop ((wrap64 (a1 + 1)) : Int).toNat) (decide (((l0.drop ((wrap64 (a1 + 1)) : Int).toNat).length : Int) ≥ 4))) else (impl_GetAddr.j0 k l0 a1 (l0.drop ((wrap64 (a1 + 1)) : Int).toNat) false)) else (none)) else (none)) else (none)) else (none)) else (some (false, 0, 0, 0, false)))) = some (r1, r2, r3, r4, r5) := h
  clear h
  replace H := Option.bind_eq_some_iff.mp H
  obtain ⟨t118, A30, H⟩ := H
  replace H : (if t118 = true then (if 0 ≤ (wrap64 (a1 + 1)) then (if (wrap64 (a1 + 1)) ≤ (l0.length : Int) then (if 0 ≤ a1 then (if a1 < (l0.length : Int) then (if (rd l0 a1) = 4 then (impl_GetAddr.j0 k l0 a1 (l0.drop ((wrap64 (a1 + 1)) : Int).toNat) (decide (((l0.drop ((wrap64 (a1 + 1)) : Int).toNat).length : Int) ≥ 4))) else (impl_GetAddr.j0 k l0 a1 (l0.drop ((wrap64 (a1 + 1)) : Int).toNat) false)) else (none)) else (none)) else (none)) else (none)) else (some (false, 0, 0, 0, false))) = some (r1, r2, r3, r4, r5) := H
  have A3 := Aside0.mk A30
  clear A30
  by_cases c4 : t118 = true
  · subst c4
    have H1 : (if 0 ≤ (wrap64 (a1 + 1)) then (if (wrap64 (a1 + 1)) ≤ (l0.length : Int) then (if 0 ≤ a1 then (if a1 < (l0.length : Int) then (if (rd l0 a1) = 4 then (impl_GetAddr.j0 k l0 a1 (l0.drop ((wrap64 (a1 + 1)) : Int).toNat) (decide (((l0.drop ((wrap64 (a1 + 1)) : Int).toNat).length : Int) ≥ 4))) else (impl_GetAddr.j0 k l0 a1 (l0.drop ((wrap64 (a1 + 1)) : Int).toNat) false)) else (none)) else (none)) else (none)) else (none)) = some (r1, r2, r3, r4, r5) := by rw [if_pos rfl] at H; exact H
    clear H
    have H := H1
    clear H1
    obtain ⟨ji5, hji5⟩ : ∃ j_ : Int, (wrap64 (a1 + 1)) = j_ := ⟨_, rfl⟩
    replace H : (if 0 ≤ (ji5) then (if (ji5) ≤ (l0.length : Int) then (if 0 ≤ a1 then (if a1 < (l0.length : Int) then (if (rd l0 a1) = 4 then (impl_GetAddr.j0 k l0 a1 (l0.drop ((ji5) : Int).toNat) (decide (((l0.drop ((ji5) : Int).toNat).length : Int) ≥ 4))) else (impl_GetAddr.j0 k l0 a1 (l0.drop ((ji5) : Int).toNat) false)) else (none)) else (none)) else (none)) else (none)) = some (r1, r2, r3, r4, r5) := by first | (rw [hji5] at H; exact H) | (simp only [hji5] at H ⊢; exact H)
    (try rw [hji5] at A3)
    have hji5w : (IntKind.i64.wrap (a1 + 1)) = ji5 := (i64_w _).trans hji5
    by_cases c6 : 0 ≤ (ji5)
    · rw [if_pos c6] at H
      have c6b0 := eq_true c6
      have c6b1 : decide (0 ≤ (ji5)) = true := decide_eq_true c6
      clear c6
      by_cases c7 : (ji5) ≤ (l0.length : Int)
      · rw [if_pos c7] at H
        have c7b0 := eq_true c7
        have c7b1 : decide ((ji5) ≤ (l0.length : Int)) = true := decide_eq_true c7
        clear c7
        have HC8 := Aside0.mk H
        clear H
        go_enter Try.func32, Try.ntmps32
        go_upto_region 4 with (first | ((with_reducible refine gate_dst (N := 4) rfl ?_); (try (refine gate_guard (by rfl) ?_; dsimp only)); refine box_event ?hg (N := 4) ?hd (cs := #[.bool false, .int .i64 0, .int .i64 0]) (t := 26) ?hr ?_; (case hd => rfl); (case hg => rfl); (case hr => first | (go_simp; done) | (go_simp; rfl)); intro gb117 hg w9 hbox hb; have n0_ := Aside0.mk (below_step (by repeat (first | (with_reducible first | exact HB.out | apply below_alloc | apply pw_below_drewN | apply below_drew1) | exact HB.out)) hb); have n1_ := Aside0.mk (hbox); have n2_ := Aside0.mk ((by rw [hg]; exact (below_size (by repeat (first | (with_reducible first | exact HB.out | apply below_alloc | apply pw_below_drewN | apply below_drew1) | exact HB.out))) : w.heap.size ≤ gb117)); have n3_ := Aside0.mk ((by rw [hg]; exact (below_size (by repeat (first | (with_reducible first | exact HB.out | apply below_alloc | apply pw_below_drewN | apply below_drew1) | exact HB.out))) : w.heap.size ≤ gb117)); clear HB; have HB := n0_; have BK117 := n1_; have GW117 := n2_; have GE117 := n3_; clear n0_ n1_ n2_ n3_; clear hb hbox hg) | ((with_reducible refine gate_callee (f := 42) rfl ?_); refine goesL_ (some 12) rfl rfl Try.func42 (by kernel_rfl) rfl #[.int .i64 a1, .int .i64 0, .int .i64 (wrap64 ((l0.length : Int) - 1))] rfl (by (try simp only [List.map_toArray, List.map_cons, List.map_nil]); first | done | rfl | (simp only [List.length_drop, List.length_take]; rfl)) ?_; (with_reducible refine (impl_from.calls a1 0 (wrap64 ((l0.length : Int) - 1)) true _ A3.out).mono ?_); rintro e w' ⟨rfl, ⟨nd, rfl⟩⟩; refine ⟨_, rfl, ?_⟩; obtain ⟨i010, hi010, _, hsz10, _⟩ := info_parts info5; obtain ⟨A10, hcut10, hA10, hC10⟩ := print_drop_of (P := Try.prog) (Value.int .u8) 0 30 5 .i64 Try.underlying30 hi010 hsz10 A0 c0 l0 (ji5) (of_decide_eq_true (by first | (with_reducible assumption) | assumption)) (of_decide_eq_true (by first | (with_reducible assumption) | assumption)) HC0.out; have HR119 := Aside0.mk (Kd.C_of_reads (h1 := fun _ => rfl) (hA10 _ (Kd.reads_of_C HR0.out))); have HC119 := Aside0.mk hC10; clear hA10 hC10 hi010 hsz10; (try (have hcut10s := hcut10; simp only [List.length_drop] at hcut10s))))
        (try simp only [Act.put, List.setIfInBounds_toArray, List.set_cons_zero, List.set_cons_succ])
        go_cut [19] (fun v19 wc => ∃ (kq : Nat) (x19_7 : Bool), v19 = .bool x19_7 ∧ Aside0 (impl_GetAddr.j0 kq l0 a1 (l0.drop ((ji5) : Int).toNat) x19_7 = some (r1, r2, r3, r4, r5)) ∧ Aside0 (kq ≤ k) ∧ Aside0 (wc.heap[gb117]? = some (.cells #[.bool false, .int .i64 0, .int .i64 0] 26 (0, 0))) ∧ Aside0 (Below w.heap.size w wc))
        case first =>
          have H := HC8.out
          clear HC8
          by_cases c11 : 0 ≤ a1
          · rw [if_pos c11] at H
            have c11b0 : decide (0 ≤ a1) = true := decide_eq_true c11
            clear c11
            (first | rw [c11b0] | (simp only [i64_w, i32_w]; rw [c11b0]) | skip)
            by_cases c12 : a1 < (l0.length : Int)
            · rw [if_pos c12] at H
              have c12b0 : decide (a1 < (l0.length : Int)) = true := decide_eq_true c12
              clear c12
              by_cases c13 : (rd l0 a1) = 4
              · rw [if_pos c13] at H
                have c13b0 : ((rd l0 a1) == 4) = true := beq_iff_eq.mpr c13
                have c13b1 : ((rd l0 a1) != 4) = false := bne_eq_false_iff_eq.mpr c13
                clear c13
                have H' := Aside0.mk H
                clear H
                have p120 : 0 ≤ (a1 : Int) := of_decide_eq_true (by first | (with_reducible assumption) | assumption)
                have q120 : a1 < (l0.length : Int) := of_decide_eq_true (by first | (with_reducible assumption) | assumption)
                obtain ⟨ad120, e120, hx120_0⟩ := Kd.at_int HR0.out a1 p120 q120
                cases e120
                replace hx120_0 := (HB.out.cell (World.block_lt_of_cell? w _ hx120_0)).trans hx120_0
                replace p120 := eq_true p120
                replace q120 := eq_true q120
                go_wp2
                go_meet
                case rel => exact ⟨_, (decide (((l0.drop ((ji5) : Int).toNat).length : Int) ≥ 4)), (by first | rfl | (simp; done) | (simp only [← hji5] <;> (first | rfl | simp)) | (simp [*]; done)), H', ⟨by first | omega | exact Nat.le_refl _⟩, ⟨by (with_reducible repeat (first | refine blk_drewN ?_ _ | refine blk_drew ?_ | refine blk_alloc ?_ _)); exact BK117.out⟩, ⟨by repeat (first | (with_reducible first | exact HB.out | apply below_alloc | apply pw_below_drewN | apply below_drew1 | refine below_set ?_ GE117.out) | exact HB.out)⟩⟩
              · rw [if_neg c13] at H
                have c13b0 : ((rd l0 a1) == 4) = false := beq_eq_false_iff_ne.mpr c13
                have c13b1 : ((rd l0 a1) != 4) = true := bne_iff_ne.mpr c13
                have H' := Aside0.mk H
                clear H
                have p120 : 0 ≤ (a1 : Int) := of_decide_eq_true (by first | (with_reducible assumption) | assumption)
                have q120 : a1 < (l0.length : Int) := of_decide_eq_true (by first | (with_reducible assumption) | assumption)
                obtain ⟨ad120, e120, hx120_0⟩ := Kd.at_int HR0.out a1 p120 q120
                cases e120
                replace hx120_0 := (HB.out.cell (World.block_lt_of_cell? w _ hx120_0)).trans hx120_0
                replace p120 := eq_true p120
                replace q120 := eq_true q120
                go_wp2
                go_meet
                case rel => exact ⟨_, (false), (by first | rfl | (simp; done) | (simp [*]; done)), H', ⟨by first | omega | exact Nat.le_refl _⟩, ⟨by (with_reducible repeat (first | refine blk_drewN ?_ _ | refine blk_drew ?_ | refine blk_alloc ?_ _)); exact BK117.out⟩, ⟨by repeat (first | (with_reducible first | exact HB.out | apply below_alloc | apply pw_below_drewN | apply below_drew1 | refine below_set ?_ GE117.out) | exact HB.out)⟩⟩
            · rw [if_neg c12] at H
              exact absurd H (by simp)
          · rw [if_neg c11] at H
            exact absurd H (by simp)
        case rest =>
          clear HC8
          try clear c1
          try clear p1
          try clear q1
          try clear hx1
          try clear p2
          try clear c3
          try clear c4
          try clear c6
          try clear c6b0
          try clear c6b1
          try clear p6
          try clear c7
          try clear c7b0
          try clear c7b1
          try clear c11
          try clear c11b0
          try clear c12
          try clear c12b0
          try clear p12
          try clear q12
          try clear hx12
          try clear c13
          try clear c13b0
          try clear c13b1
          try clear hx120_0
          try clear p120
          try clear q120
          obtain ⟨kq, x19_7, rfl, HA, HJ7, BK117, HB⟩ := hcut
          cases kq with
          | zero => exact absurd HA.out (by simp [impl_GetAddr.j0])
          | succ kj7 =>
            have H := HA.out
            clear HA
            simp only [impl_GetAddr.j0] at H
            by_cases c14 : x19_7 = true
            · subst c14
              have H1 : (if 4 ≤ ((l0.drop ((ji5) : Int).toNat).length : Int) then ((impl_narrow.f kj7 ((l0.drop ((ji5) : Int).toNat).take 4)).bind fun t122 => (some (false, 0, t122, wrap64 (a1 + 5), true))) else (none)) = some (r1, r2, r3, r4, r5) := by rw [if_pos rfl] at H; exact H
              clear H
              have H := H1
              clear H1
              by_cases c15 : 4 ≤ ((l0.drop ((ji5) : Int).toNat).length : Int)
              · rw [if_pos c15] at H
                have c15b0 := eq_true c15
                have c15b1 : decide (4 ≤ ((l0.drop ((ji5) : Int).toNat).length : Int)) = true := decide_eq_true c15
                clear c15
                replace H := Option.bind_eq_some_iff.mp H
                obtain ⟨t122, A160, H⟩ := H
                replace H : (some (false, 0, t122, wrap64 (a1 + 5), true)) = some (r1, r2, r3, r4, r5) := H
                have A16 := Aside0.mk A160
                clear A160
                simp only [Option.some.injEq, Prod.mk.injEq] at H
                obtain ⟨rfl, rfl, rfl, rfl, rfl⟩ := H
                obtain ⟨i017, hi017, _, hsz17, _⟩ := info_parts info5
                obtain ⟨hcut17, hA17, hC17⟩ := print_take_of (P := Try.prog) (Value.int .u8) 0 30 5 .i64 Try.underlying30 hi017 hsz17 A10 (c0 - (ji5).toNat) (l0.drop ((ji5) : Int).toNat) 4 (by omega) (of_decide_eq_true (by first | (with_reducible assumption) | assumption)) HC119.out
                have HR121 := Aside0.mk (Kd.C_of_reads (h1 := fun _ => rfl) (hA17 _ (Kd.reads_of_C HR119.out)))
                have HC121 := Aside0.mk hC17
                clear hA17 hC17 hi017 hsz17; (try (have hcut17s := hcut17; simp only [List.length_drop] at hcut17s))
                go_wp2_with (first | ((with_reducible refine gate_callee (f := 45) rfl ?_); refine goesL_ (some 32) rfl rfl Try.func45 (by kernel_rfl) rfl #[.slice A10 ((l0.drop ((ji5) : Int).toNat).take 4).length (c0 - (ji5).toNat)] rfl (by (try simp only [List.map_toArray, List.map_cons, List.map_nil]); first | done | (rw [show ((l0.drop ((ji5) : Int).toNat).take 4).length = 4 from (by rw [List.length_take]; have h_ : (4 : Int) ≤ ((l0.drop ((ji5) : Int).toNat).length : Int) := of_decide_eq_true (by first | (with_reducible assumption) | assumption); omega)] <;> rfl) | (simp only [hji5]; rfl) | rfl | (simp only [List.length_drop, List.length_take]; rfl)) ?_; (with_reducible refine (impl_narrow.calls kj7 _ _ ((l0.drop ((ji5) : Int).toNat).take 4) t122 _ ?side1 ?side2 A16.out).mono ?_); (case side1 => repeat (first | exact (Kd.C_below HR121.out HB.out) | (with_reducible refine Kd.C_alloc ?_ _) | (with_reducible refine Kd.C_drewN ?_ _) | (with_reducible refine Kd.C_drew ?_))); (case side2 => exact HC121.out); rintro e w' ⟨rfl, ⟨nd, rfl⟩⟩; refine ⟨_, rfl, ?_⟩; (try (rw [drewN_self wc]; generalize hq_ : World.drewN wc _ = wc; have n0_ : Aside0 (wc.heap[gb117]? = some (.cells #[.bool false, .int .i64 0, .int .i64 0] 26 (0, 0))) := ⟨by rw [← hq_]; exact (by (with_reducible repeat (first | refine blk_drewN ?_ _ | refine blk_drew ?_ | refine blk_alloc ?_ _)); exact BK117.out)⟩; have n1_ : Aside0 (Below w.heap.size w wc) := ⟨by rw [← hq_]; exact (by repeat (first | (with_reducible first | exact HB.out | apply below_alloc | apply pw_below_drewN | apply below_drew1 | refine below_set ?_ GE117.out) | exact HB.out))⟩; clear BK117 HB hq_; have BK117 := n0_; have HB := n1_; clear n0_ n1_)); have hcz18_0 : wc.cell? ⟨gb117, 0, none⟩ = some (.bool false) := (blk_cell BK117.out 0).trans rfl; have hcz18_1 : wc.cell? ⟨gb117, 1, none⟩ = some (.int .i64 0) := (blk_cell BK117.out 1).trans rfl; have hcz18_2 : wc.cell? ⟨gb117, 2, none⟩ = some (.int .i64 0) := (blk_cell BK117.out 2).trans rfl; have hfz18_0 := blk_frozen BK117.out 0; have hfz18_1 := blk_frozen BK117.out 1; have hfz18_2 := blk_frozen BK117.out 2))
                refine bodyPost_ret (results_ctt rfl _ _ gb117 26 #[.bool false, .int .i64 0, .int .i64 t122] (0, 0) _ rfl (by (with_reducible repeat (first | refine blk_drewN ?_ _ | refine blk_drew ?_ | refine blk_alloc ?_ _)); refine blk_put (cs := #[.bool false, .int .i64 0, .int .i64 0]) ?_ 2 _ rfl; (with_reducible repeat (first | refine blk_drewN ?_ _ | refine blk_drew ?_ | refine blk_alloc ?_ _)); refine blk_put (cs := #[.bool false, .int .i64 0, .int .i64 0]) ?_ 1 _ rfl; (with_reducible repeat (first | refine blk_drewN ?_ _ | refine blk_drew ?_ | refine blk_alloc ?_ _)); refine blk_put (cs := #[.bool false, .int .i64 0, .int .i64 0]) ?_ 0 _ rfl; (with_reducible repeat (first | refine blk_drewN ?_ _ | refine blk_drew ?_ | refine blk_alloc ?_ _)); exact BK117.out) Try.underlying26 rfl (by kernel_rfl)) rfl ?_
                exact ⟨by first | rfl | (simp [errW_none, errW_some] <;> rfl) | (simp only [← hji5]; first | rfl | (simp [errW_none, errW_some] <;> rfl)) | (simp [*, errW_none, errW_some] <;> rfl), by repeat (first | (with_reducible first | exact HB.out | apply below_alloc | apply pw_below_drewN | apply below_drew1 | refine below_set ?_ GE117.out) | exact HB.out)⟩
              · rw [if_neg c15] at H
                exact absurd H (by simp)
            · replace c14 := Bool.eq_false_iff.mpr c14
              subst c14
              have H1 : (if 0 ≤ a1 then (if a1 < (l0.length : Int) then (if (rd l0 a1) = 6 then (impl_GetAddr.j1 kj7 a1 (l0.drop ((ji5) : Int).toNat) (decide (((l0.drop ((ji5) : Int).toNat).length : Int) ≥ 16))) else (impl_GetAddr.j1 kj7 a1 (l0.drop ((ji5) : Int).toNat) false)) else (none)) else (none)) = some (r1, r2, r3, r4, r5) := by rw [if_neg (show ¬ (false = true) by decide)] at H; exact H
              clear H
              have H := H1
              clear H1
              have HC19 := Aside0.mk H
              clear H
              go_upto_region 6 with (fail)
              go_cut [36] (fun v36 wc => ∃ (kq : Nat) (x36_18 : Bool), v36 = .bool x36_18 ∧ Aside0 (impl_GetAddr.j1 kq a1 (l0.drop ((ji5) : Int).toNat) x36_18 = some (r1, r2, r3, r4, r5)) ∧ Aside0 (kq ≤ kj7) ∧ Aside0 (wc.heap[gb117]? = some (.cells #[.bool false, .int .i64 0, .int .i64 0] 26 (0, 0))) ∧ Aside0 (Below w.heap.size w wc))
              case first =>
                have H := HC19.out
                clear HC19
                by_cases c20 : 0 ≤ a1
                · rw [if_pos c20] at H
                  have c20b0 : decide (0 ≤ a1) = true := decide_eq_true c20
                  clear c20
                  (first | rw [c20b0] | (simp only [i64_w, i32_w]; rw [c20b0]) | skip)
                  by_cases c21 : a1 < (l0.length : Int)
                  · rw [if_pos c21] at H
                    have c21b0 : decide (a1 < (l0.length : Int)) = true := decide_eq_true c21
                    clear c21
                    by_cases c22 : (rd l0 a1) = 6
                    · rw [if_pos c22] at H
                      have c22b0 : ((rd l0 a1) == 6) = true := beq_iff_eq.mpr c22
                      have c22b1 : ((rd l0 a1) != 6) = false := bne_eq_false_iff_eq.mpr c22
                      clear c22
                      have H' := Aside0.mk H
                      clear H
                      have p123 : 0 ≤ (a1 : Int) := of_decide_eq_true (by first | (with_reducible assumption) | assumption)
                      have q123 : a1 < (l0.length : Int) := of_decide_eq_true (by first | (with_reducible assumption) | assumption)
                      obtain ⟨ad123, e123, hx123_0⟩ := Kd.at_int HR0.out a1 p123 q123
                      cases e123
                      replace hx123_0 := (HB.out.cell (World.block_lt_of_cell? w _ hx123_0)).trans hx123_0
                      replace p123 := eq_true p123
                      replace q123 := eq_true q123
                      go_wp2
                      go_meet
                      case rel => exact ⟨_, (decide (((l0.drop ((ji5) : Int).toNat).length : Int) ≥ 16)), (by first | rfl | (simp; done) | (simp only [← hji5] <;> (first | rfl | simp)) | (simp [*]; done)), H', ⟨by have := HJ7.out; first | omega | exact Nat.le_refl _⟩, ⟨by (with_reducible repeat (first | refine blk_drewN ?_ _ | refine blk_drew ?_ | refine blk_alloc ?_ _)); exact BK117.out⟩, ⟨by repeat (first | (with_reducible first | exact HB.out | apply below_alloc | apply pw_below_drewN | apply below_drew1 | refine below_set ?_ GE117.out) | exact HB.out)⟩⟩
                    · rw [if_neg c22] at H
                      have c22b0 : ((rd l0 a1) == 6) = false := beq_eq_false_iff_ne.mpr c22
                      have c22b1 : ((rd l0 a1) != 6) = true := bne_iff_ne.mpr c22
                      have H' := Aside0.mk H
                      clear H
                      have p123 : 0 ≤ (a1 : Int) := of_decide_eq_true (by first | (with_reducible assumption) | assumption)
                      have q123 : a1 < (l0.length : Int) := of_decide_eq_true (by first | (with_reducible assumption) | assumption)
                      obtain ⟨ad123, e123, hx123_0⟩ := Kd.at_int HR0.out a1 p123 q123
                      cases e123
                      replace hx123_0 := (HB.out.cell (World.block_lt_of_cell? w _ hx123_0)).trans hx123_0
                      replace p123 := eq_true p123
                      replace q123 := eq_true q123
                      go_wp2
                      go_meet
                      case rel => exact ⟨_, (false), (by first | rfl | (simp; done) | (simp [*]; done)), H', ⟨by have := HJ7.out; first | omega | exact Nat.le_refl _⟩, ⟨by (with_reducible repeat (first | refine blk_drewN ?_ _ | refine blk_drew ?_ | refine blk_alloc ?_ _)); exact BK117.out⟩, ⟨by repeat (first | (with_reducible first | exact HB.out | apply below_alloc | apply pw_below_drewN | apply below_drew1 | refine below_set ?_ GE117.out) | exact HB.out)⟩⟩
                  · rw [if_neg c21] at H
                    exact absurd H (by simp)
                · rw [if_neg c20] at H
                  exact absurd H (by simp)
              case rest =>
                clear HC19
                try clear c1
                try clear p1
                try clear q1
                try clear hx1
                try clear c2
                try clear p2
                try clear c3
                try clear c4
                try clear c6
                try clear c6b0
                try clear c6b1
                try clear p6
                try clear c7
                try clear c7b0
                try clear c7b1
                try clear c11
                try clear c11b0
                try clear c12
                try clear c12b0
                try clear p12
                try clear q12
                try clear hx12
                try clear c13
                try clear c13b0
                try clear c13b1
                try clear c14
                try clear c15
                try clear c15b0
                try clear c15b1
                try clear c20
                try clear c20b0
                try clear c21
                try clear c21b0
                try clear c22
                try clear c22b0
                try clear c22b1
                try clear hcz18_0
                try clear hcz18_1
                try clear hcz18_2
                try clear hfz18_0
                try clear hfz18_1
                try clear hfz18_2
                try clear hx120_0
                try clear hx123_0
                try clear p1
                try clear p12
                try clear p120
                try clear p123
                try clear p2
                try clear p6
                try clear q1
                try clear q12
                try clear q120
                try clear q123
                obtain ⟨kq, x36_18, rfl, HA, HJ18, BK117, HB⟩ := hcut
                cases kq with
                | zero => exact absurd HA.out (by simp [impl_GetAddr.j1])
                | succ kj18 =>
                  have H := HA.out
                  clear HA
                  simp only [impl_GetAddr.j1] at H
                  by_cases c23 : x36_18 = true
                  · subst c23
                    have H1 : (if 8 ≤ ((l0.drop ((ji5) : Int).toNat).length : Int) then ((impl_narrow.f kj18 ((l0.drop ((ji5) : Int).toNat).take 8)).bind fun t125 => (if 8 ≤ 16 then (if 16 ≤ ((l0.drop ((ji5) : Int).toNat).length : Int) then ((impl_narrow.f kj18 (((l0.drop ((ji5) : Int).toNat).take 16).drop 8)).bind fun t127 => (some (true, t125, t127, wrap64 (a1 + 17), true))) else (none)) else (none))) else (none)) = some (r1, r2, r3, r4, r5) := by rw [if_pos rfl] at H; exact H
                    clear H
                    have H := H1
                    clear H1
                    by_cases c24 : 8 ≤ ((l0.drop ((ji5) : Int).toNat).length : Int)
                    · rw [if_pos c24] at H
                      have c24b0 := eq_true c24
                      have c24b1 : decide (8 ≤ ((l0.drop ((ji5) : Int).toNat).length : Int)) = true := decide_eq_true c24
                      clear c24
                      replace H := Option.bind_eq_some_iff.mp H
                      obtain ⟨t125, A250, H⟩ := H
                      replace H : (if 8 ≤ 16 then (if 16 ≤ ((l0.drop ((ji5) : Int).toNat).length : Int) then ((impl_narrow.f kj18 (((l0.drop ((ji5) : Int).toNat).take 16).drop 8)).bind fun t127 => (some (true, t125, t127, wrap64 (a1 + 17), true))) else (none)) else (none)) = some (r1, r2, r3, r4, r5) := H
                      have A25 := Aside0.mk A250
                      clear A250
                      by_cases c26 : 8 ≤ 16
                      · rw [if_pos c26] at H
                        have c26b0 := eq_true c26
                        have c26b1 : decide (8 ≤ 16) = true := decide_eq_true c26
                        clear c26
                        by_cases c27 : 16 ≤ ((l0.drop ((ji5) : Int).toNat).length : Int)
                        · rw [if_pos c27] at H
                          have c27b0 := eq_true c27
                          have c27b1 : decide (16 ≤ ((l0.drop ((ji5) : Int).toNat).length : Int)) = true := decide_eq_true c27
                          clear c27
                          replace H := Option.bind_eq_some_iff.mp H
                          obtain ⟨t127, A280, H⟩ := H
                          replace H : (some (true, t125, t127, wrap64 (a1 + 17), true)) = some (r1, r2, r3, r4, r5) := H
                          have A28 := Aside0.mk A280
                          clear A280
                          simp only [Option.some.injEq, Prod.mk.injEq] at H
                          obtain ⟨rfl, rfl, rfl, rfl, rfl⟩ := H
                          try go_wp2
                          have n0_ := Aside0.mk (blk_drew BK117.out)
                          have n1_ := Aside0.mk (below_drew1 HB.out)
                          clear BK117
                          clear HB
                          have BK117 := n0_
                          have HB := n1_
                          clear n0_ n1_
                          obtain ⟨i030, hi030, _, hsz30, _⟩ := info_parts info5
                          obtain ⟨hcut30, hA30, hC30⟩ := print_take_of (P := Try.prog) (Value.int .u8) 0 30 5 .i64 Try.underlying30 hi030 hsz30 A10 (c0 - (ji5).toNat) (l0.drop ((ji5) : Int).toNat) 8 (by omega) (of_decide_eq_true (by first | (with_reducible assumption) | assumption)) HC119.out
                          have HR124 := Aside0.mk (Kd.C_of_reads (h1 := fun _ => rfl) (hA30 _ (Kd.reads_of_C HR119.out)))
                          have HC124 := Aside0.mk hC30
                          clear hA30 hC30 hi030 hsz30; (try (have hcut30s := hcut30; simp only [List.length_drop] at hcut30s))
                          obtain ⟨i031, hi031, _, hsz31, _⟩ := info_parts info5
                          obtain ⟨A31, hcut31, hA31, hC31⟩ := print_mid_of (P := Try.prog) (Value.int .u8) 0 30 5 .i64 .i64 Try.underlying30 hi031 hsz31 A10 (c0 - (ji5).toNat) (l0.drop ((ji5) : Int).toNat) 8 16 (by omega) (by first | omega | exact of_decide_eq_true (by first | (with_reducible assumption) | assumption)) (of_decide_eq_true (by first | (with_reducible assumption) | assumption)) HC119.out
                          have HR126 := Aside0.mk (Kd.C_of_reads (h1 := fun _ => rfl) (hA31 _ (Kd.reads_of_C HR119.out)))
                          have HC126 := Aside0.mk hC31
                          clear hA31 hC31 hi031 hsz31; (try (have hcut31s := hcut31; simp only [List.length_drop] at hcut31s))
                          refine start_ (n := 12) (S := fun w' => True) (ds := []) #[false, false, false, false, false, false, false, false, false, false, false, false] (by kernel_rfl) rfl rfl trivial (fun hHeld => ?_); refine with_tabW impl_GetAddr.tab7 impl_GetAddr.bits7 (fun HT_ HW_ => ?_)
                          generalize wc.drew = w29 at BK117 HB HR124 HR126 hHeld ⊢
                          refine pure_ (i := 0) (N := some 47) (v := ?_) (a' := ?_) #[true, false, false, false, false, false, false, false, false, false, false, false] rfl rfl (any_of HT_.out (by kernel_rfl)) (fun _ _ _ h => h) (Or.inl ⟨by rfl, ?_⟩) ?_ ?_
                          rotate_left
                          · intro w'
                            go_simp
                            with_reducible rfl
                          rotate_left
                          · simp only [Act.put, List.setIfInBounds_toArray, List.set_cons_zero, List.set_cons_succ, i64_w, i32_w]
                            rfl
                          refine pure_ (i := 1) (N := some 48) (v := ?_) (a' := ?_) #[true, true, false, false, false, false, false, false, false, false, false, false] rfl rfl (any_of HT_.out (by kernel_rfl)) (fun _ _ _ h => h) (Or.inl ⟨by rfl, ?_⟩) ?_ ?_
                          rotate_left
                          · intro w'
                            go_simp
                            with_reducible rfl
                          rotate_left
                          · simp only [Act.put, List.setIfInBounds_toArray, List.set_cons_zero, List.set_cons_succ, i64_w, i32_w]
                            rfl
                          refine pure_ (i := 3) (N := some 50) (v := ?_) (a' := ?_) #[true, true, false, true, false, false, false, false, false, false, false, false] rfl rfl (any_of HT_.out (by kernel_rfl)) (fun _ _ _ h => h) (Or.inl ⟨by rfl, ?_⟩) ?_ ?_
                          rotate_left
                          · intro w'
                            go_simp
                            with_reducible rfl
                          rotate_left
                          · simp only [Act.put, List.setIfInBounds_toArray, List.set_cons_zero, List.set_cons_succ, i64_w, i32_w]
                            rfl
                          refine pure_ (i := 4) (N := some 51) (v := ?_) (a' := ?_) #[true, true, false, true, true, false, false, false, false, false, false, false] rfl rfl (any_of HT_.out (by kernel_rfl)) (fun _ _ _ h => h) (Or.inl ⟨by rfl, ?_⟩) ?_ ?_
                          rotate_left
                          · intro w'
                            go_simp
                            with_reducible rfl
                          rotate_left
                          · simp only [Act.put, List.setIfInBounds_toArray, List.set_cons_zero, List.set_cons_succ, i64_w, i32_w]
                            rfl
                          refine pure_ (i := 7) (N := some 54) (v := ?_) (a' := ?_) #[true, true, false, true, true, false, false, true, false, false, false, false] rfl rfl (any_of HT_.out (by kernel_rfl)) (fun _ _ _ h => h) (Or.inl ⟨by rfl, ?_⟩) ?_ ?_
                          rotate_left
                          · intro w'
                            go_simp
                            with_reducible rfl
                          rotate_left
                          · simp only [Act.put, List.setIfInBounds_toArray, List.set_cons_zero, List.set_cons_succ, i64_w, i32_w]
                            rfl
                          refine pure_ (i := 8) (N := some 55) (v := ?_) (a' := ?_) #[true, true, false, true, true, false, false, true, true, false, false, false] rfl rfl (any_of HT_.out (by kernel_rfl)) (fun _ _ _ h => h) (Or.inl ⟨by rfl, ?_⟩) ?_ ?_
                          rotate_left
                          · intro w'
                            go_simp
                            with_reducible rfl
                          rotate_left
                          · simp only [Act.put, List.setIfInBounds_toArray, List.set_cons_zero, List.set_cons_succ, i64_w, i32_w]
                            rfl
                          refine one_ (i := 2) (N := some 49) #[true, true, true, true, true, false, false, true, true, false, false, false] rfl rfl (one_of HT_.out (by kernel_rfl)) (by decide) (fun K hK => ?_)
                          refine goes_ Try.func45 (by kernel_rfl) rfl #[.slice A10 ((l0.drop ((ji5) : Int).toNat).take 8).length (c0 - (ji5).toNat)] (by rfl) rfl rfl (by (try simp only [List.map_toArray, List.map_cons, List.map_nil]); first | done | (rw [show ((l0.drop ((ji5) : Int).toNat).take 8).length = 8 from (by rw [List.length_take]; have h_ : (8 : Int) ≤ ((l0.drop ((ji5) : Int).toNat).length : Int) := of_decide_eq_true (by first | (with_reducible assumption) | assumption); omega)] <;> rfl) | (simp only [hji5]; rfl) | rfl | (simp only [List.length_drop, List.length_take]; rfl)) ?_
                          with_reducible refine (impl_narrow.calls kj18 _ _ ((l0.drop ((ji5) : Int).toNat).take 8) t125 _ ?side1 ?side2 A25.out).mono ?_
                          (case side1 => repeat (first | exact (Kd.C_below HR124.out HB.out) | (with_reducible refine Kd.C_alloc ?_ _) | (with_reducible refine Kd.C_drewN ?_ _) | (with_reducible refine Kd.C_drew ?_)))
                          (case side2 => exact HC124.out)
                          rintro e w' ⟨rfl, ⟨nd, rfl⟩⟩
                          refine ⟨_, rfl, ?_⟩
                          refine hK.out _ _ trivial (fun hHeld => ?_)
                          clear hK K
                          refine norm_ (a' := ?_) ?_ ?_
                          rotate_left
                          · show Act.put _ (some 49) _ = _
                            simp only [Act.put, List.setIfInBounds_toArray, List.set_cons_zero, List.set_cons_succ, i64_w, i32_w]
                            rfl
                          refine one_ (i := 5) (N := some 52) #[true, true, true, true, true, true, false, true, true, false, false, false] rfl rfl (one_of HT_.out (by kernel_rfl)) (by decide) (fun K hK => ?_)
                          refine goes_ Try.func45 (by kernel_rfl) rfl #[.slice A31 (((l0.drop ((ji5) : Int).toNat).take 16).drop 8).length ((c0 - (ji5).toNat) - 8)] (by rfl) rfl rfl (by (try simp only [List.map_toArray, List.map_cons, List.map_nil]); first | done | (rw [show (((l0.drop ((ji5) : Int).toNat).take 16).drop 8).length = (16 - 8) from (by rw [List.length_drop, List.length_take]; have h_ : (16 : Int) ≤ ((l0.drop ((ji5) : Int).toNat).length : Int) := of_decide_eq_true (by first | (with_reducible assumption) | assumption); omega)] <;> rfl) | (simp only [hji5]; rfl) | rfl | (simp only [List.length_drop, List.length_take]; rfl)) ?_
                          with_reducible refine (impl_narrow.calls kj18 _ _ (((l0.drop ((ji5) : Int).toNat).take 16).drop 8) t127 _ ?side1 ?side2 A28.out).mono ?_
                          (case side1 => repeat (first | exact (Kd.C_below HR126.out (by repeat (first | (with_reducible first | exact HB.out | apply below_alloc | apply pw_below_drewN | apply below_drew1 | refine below_set ?_ GE117.out) | exact HB.out))) | (with_reducible refine Kd.C_alloc ?_ _) | (with_reducible refine Kd.C_drewN ?_ _) | (with_reducible refine Kd.C_drew ?_)))
                          (case side2 => exact HC126.out)
                          rintro e w' ⟨rfl, ⟨nd, rfl⟩⟩
                          refine ⟨_, rfl, ?_⟩
                          refine hK.out _ _ trivial (fun hHeld => ?_)
                          clear hK K
                          refine norm_ (a' := ?_) ?_ ?_
                          rotate_left
                          · show Act.put _ (some 52) _ = _
                            simp only [Act.put, List.setIfInBounds_toArray, List.set_cons_zero, List.set_cons_succ, i64_w, i32_w]
                            rfl
                          refine pure_ (i := 6) (N := some 53) (v := ?_) (a' := ?_) #[true, true, true, true, true, true, true, true, true, false, false, false] rfl rfl (any_of HT_.out (by kernel_rfl)) (fun _ _ _ h => h) (Or.inl ⟨by rfl, ?_⟩) ?_ ?_
                          rotate_left
                          · intro w'
                            go_simp
                            with_reducible rfl
                          rotate_left
                          · simp only [Act.put, List.setIfInBounds_toArray, List.set_cons_zero, List.set_cons_succ, i64_w, i32_w]
                            rfl
                          refine one_ (i := 9) (N := none) #[true, true, true, true, true, true, true, true, true, true, false, false] rfl rfl (one_of HT_.out (by kernel_rfl)) (by decide) (fun K hK => ?_)
                          have hs32 : w29.cell? ⟨gb117, 0, none⟩ = some (.bool false) := (blk_cell BK117.out 0).trans rfl
                          have hfs32 := blk_frozen BK117.out 0
                          have hs33 : w29.cell? ⟨gb117, 1, none⟩ = some (.int .i64 0) := (blk_cell BK117.out 1).trans rfl
                          have hfs33 := blk_frozen BK117.out 1
                          have hs34 : w29.cell? ⟨gb117, 2, none⟩ = some (.int .i64 0) := (blk_cell BK117.out 2).trans rfl
                          have hfs34 := blk_frozen BK117.out 2
                          refine skip_ (w1 := ?_) (by rfl) rfl ?_ ?_
                          rotate_left
                          · go_simp
                            rfl
                          refine hK.out _ _ trivial (fun hHeld => ?_)
                          clear hK K
                          refine pure_ (i := 10) (N := some 5) (v := ?_) (a' := ?_) #[true, true, true, true, true, true, true, true, true, true, true, false] rfl rfl (any_of HT_.out (by kernel_rfl)) (fun _ _ _ h => h) (Or.inl ⟨by rfl, ?_⟩) ?_ ?_
                          rotate_left
                          · intro w'
                            go_simp
                            with_reducible rfl
                          rotate_left
                          · simp only [Act.put, List.setIfInBounds_toArray, List.set_cons_zero, List.set_cons_succ, i64_w, i32_w]
                            rfl
                          refine pure_ (i := 11) (N := some 6) (v := ?_) (a' := ?_) #[true, true, true, true, true, true, true, true, true, true, true, true] rfl rfl (any_of HT_.out (by kernel_rfl)) (fun _ _ _ h => h) (Or.inl ⟨by rfl, ?_⟩) ?_ ?_
                          rotate_left
                          · intro w'
                            go_simp
                            with_reducible rfl
                          rotate_left
                          · simp only [Act.put, List.setIfInBounds_toArray, List.set_cons_zero, List.set_cons_succ, i64_w, i32_w]
                            rfl
                          refine done_ (done_of HT_.out (by kernel_rfl)) ?_
                          try go_wp2
                          refine bodyPost_ret (results_ctt rfl _ _ gb117 26 #[.bool true, .int .i64 t125, .int .i64 t127] (0, 0) _ rfl (by (with_reducible repeat (first | refine blk_drewN ?_ _ | refine blk_drew ?_ | refine blk_alloc ?_ _)); refine blk_put (cs := #[.bool true, .int .i64 t125, .int .i64 0]) ?_ 2 _ rfl; (with_reducible repeat (first | refine blk_drewN ?_ _ | refine blk_drew ?_ | refine blk_alloc ?_ _)); refine blk_put (cs := #[.bool true, .int .i64 0, .int .i64 0]) ?_ 1 _ rfl; (with_reducible repeat (first | refine blk_drewN ?_ _ | refine blk_drew ?_ | refine blk_alloc ?_ _)); refine blk_put (cs := #[.bool false, .int .i64 0, .int .i64 0]) ?_ 0 _ rfl; (with_reducible repeat (first | refine blk_drewN ?_ _ | refine blk_drew ?_ | refine blk_alloc ?_ _)); exact BK117.out) Try.underlying26 rfl (by kernel_rfl)) rfl ?_
                          exact ⟨by first | rfl | (simp [errW_none, errW_some] <;> rfl) | (simp only [← hji5]; first | rfl | (simp [errW_none, errW_some] <;> rfl)) | (simp [*, errW_none, errW_some] <;> rfl), by repeat (first | (with_reducible first | exact HB.out | apply below_alloc | apply pw_below_drewN | apply below_drew1 | refine below_set ?_ GE117.out) | exact HB.out)⟩
                        · rw [if_neg c27] at H
                          exact absurd H (by simp)
                      · rw [if_neg c26] at H
                        exact absurd H (by simp)
                    · rw [if_neg c24] at H
                      exact absurd H (by simp)
                  · replace c23 := Bool.eq_false_iff.mpr c23
                    subst c23
                    have H1 : (some (false, 0, 0, 0, false)) = some (r1, r2, r3, r4, r5) := by rw [if_neg (show ¬ (false = true) by decide)] at H; exact H
                    clear H
                    have H := H1
                    clear H1
                    simp only [Option.some.injEq, Prod.mk.injEq] at H
                    obtain ⟨rfl, rfl, rfl, rfl, rfl⟩ := H
                    have hcz35_0 : wc.cell? ⟨gb117, 0, none⟩ = some (.bool false) := (blk_cell BK117.out 0).trans rfl
                    have hcz35_1 : wc.cell? ⟨gb117, 1, none⟩ = some (.int .i64 0) := (blk_cell BK117.out 1).trans rfl
                    have hcz35_2 : wc.cell? ⟨gb117, 2, none⟩ = some (.int .i64 0) := (blk_cell BK117.out 2).trans rfl
                    have hfz35_0 := blk_frozen BK117.out 0
                    have hfz35_1 := blk_frozen BK117.out 1
                    have hfz35_2 := blk_frozen BK117.out 2
                    go_wp2
                    refine bodyPost_ret (results_ctt rfl _ _ gb117 26 #[.bool false, .int .i64 0, .int .i64 0] (0, 0) _ rfl (by (with_reducible repeat (first | refine blk_drewN ?_ _ | refine blk_drew ?_ | refine blk_alloc ?_ _)); refine blk_put (cs := #[.bool false, .int .i64 0, .int .i64 0]) ?_ 2 _ rfl; (with_reducible repeat (first | refine blk_drewN ?_ _ | refine blk_drew ?_ | refine blk_alloc ?_ _)); refine blk_put (cs := #[.bool false, .int .i64 0, .int .i64 0]) ?_ 1 _ rfl; (with_reducible repeat (first | refine blk_drewN ?_ _ | refine blk_drew ?_ | refine blk_alloc ?_ _)); refine blk_put (cs := #[.bool false, .int .i64 0, .int .i64 0]) ?_ 0 _ rfl; (with_reducible repeat (first | refine blk_drewN ?_ _ | refine blk_drew ?_ | refine blk_alloc ?_ _)); exact BK117.out) Try.underlying26 rfl (by kernel_rfl)) rfl ?_
                    exact ⟨by first | rfl | (simp [errW_none, errW_some] <;> rfl) | (simp only [← hji5]; first | rfl | (simp [errW_none, errW_some] <;> rfl)) | (simp [*, errW_none, errW_some] <;> rfl), by repeat (first | (with_reducible first | exact HB.out | apply below_alloc | apply pw_below_drewN | apply below_drew1 | refine below_set ?_ GE117.out) | exact HB.out)⟩
      · rw [if_neg c7] at H
        exact absurd H (by simp)
    · rw [if_neg c6] at H
      exact absurd H (by simp)
  · replace c4 := Bool.eq_false_iff.mpr c4
    subst c4
    have H1 : (some (false, 0, 0, 0, false)) = some (r1, r2, r3, r4, r5) := by rw [if_neg (show ¬ (false = true) by decide)] at H; exact H
    clear H
    have H := H1
    clear H1
    simp only [Option.some.injEq, Prod.mk.injEq] at H
    obtain ⟨rfl, rfl, rfl, rfl, rfl⟩ := H
    go_enter Try.func32, Try.ntmps32
    go_wp2_with (first | ((with_reducible refine gate_dst (N := 4) rfl ?_); (try (refine gate_guard (by rfl) ?_; dsimp only)); refine box_event ?hg (N := 4) ?hd (cs := #[.bool false, .int .i64 0, .int .i64 0]) (t := 26) ?hr ?_; (case hd => rfl); (case hg => rfl); (case hr => first | (go_simp; done) | (go_simp; rfl)); intro gb117 hg w36 hbox hb; have n0_ := Aside0.mk (below_step (by repeat (first | (with_reducible first | exact HB.out | apply below_alloc | apply pw_below_drewN | apply below_drew1) | exact HB.out)) hb); have n1_ := Aside0.mk (hbox); have n2_ := Aside0.mk ((by rw [hg]; exact (below_size (by repeat (first | (with_reducible first | exact HB.out | apply below_alloc | apply pw_below_drewN | apply below_drew1) | exact HB.out))) : w.heap.size ≤ gb117)); have n3_ := Aside0.mk ((by rw [hg]; exact (below_size (by repeat (first | (with_reducible first | exact HB.out | apply below_alloc | apply pw_below_drewN | apply below_drew1) | exact HB.out))) : w.heap.size ≤ gb117)); clear HB; have HB := n0_; have BK117 := n1_; have GW117 := n2_; have GE117 := n3_; clear n0_ n1_ n2_ n3_; clear hb hbox hg) | ((with_reducible refine gate_callee (f := 42) rfl ?_); refine goesL_ (some 12) rfl rfl Try.func42 (by kernel_rfl) rfl #[.int .i64 a1, .int .i64 0, .int .i64 (wrap64 ((l0.length : Int) - 1))] rfl (by (try simp only [List.map_toArray, List.map_cons, List.map_nil]); first | done | rfl | (simp only [List.length_drop, List.length_take]; rfl)) ?_; (with_reducible refine (impl_from.calls a1 0 (wrap64 ((l0.length : Int) - 1)) false _ A3.out).mono ?_); rintro e w' ⟨rfl, ⟨nd, rfl⟩⟩; refine ⟨_, rfl, ?_⟩; (try (rw [drewN_self w36]; generalize hq_ : World.drewN w36 _ = w36; have n0_ : Aside0 (w36.heap[gb117]? = some (.cells #[.bool false, .int .i64 0, .int .i64 0] 26 (0, 0))) := ⟨by rw [← hq_]; exact (by (with_reducible repeat (first | refine blk_drewN ?_ _ | refine blk_drew ?_ | refine blk_alloc ?_ _)); exact BK117.out)⟩; have n1_ : Aside0 (Below w.heap.size w w36) := ⟨by rw [← hq_]; exact (by repeat (first | (with_reducible first | exact HB.out | apply below_alloc | apply pw_below_drewN | apply below_drew1 | refine below_set ?_ GE117.out) | exact HB.out))⟩; clear BK117 HB hq_; have BK117 := n0_; have HB := n1_; clear n0_ n1_)); have hcz37_0 : w36.cell? ⟨gb117, 0, none⟩ = some (.bool false) := (blk_cell BK117.out 0).trans rfl; have hcz37_1 : w36.cell? ⟨gb117, 1, none⟩ = some (.int .i64 0) := (blk_cell BK117.out 1).trans rfl; have hcz37_2 : w36.cell? ⟨gb117, 2, none⟩ = some (.int .i64 0) := (blk_cell BK117.out 2).trans rfl; have hfz37_0 := blk_frozen BK117.out 0; have hfz37_1 := blk_frozen BK117.out 1; have hfz37_2 := blk_frozen BK117.out 2))
    refine bodyPost_ret (results_ctt rfl _ _ gb117 26 #[.bool false, .int .i64 0, .int .i64 0] (0, 0) _ rfl (by (with_reducible repeat (first | refine blk_drewN ?_ _ | refine blk_drew ?_ | refine blk_alloc ?_ _)); refine blk_put (cs := #[.bool false, .int .i64 0, .int .i64 0]) ?_ 2 _ rfl; (with_reducible repeat (first | refine blk_drewN ?_ _ | refine blk_drew ?_ | refine blk_alloc ?_ _)); refine blk_put (cs := #[.bool false, .int .i64 0, .int .i64 0]) ?_ 1 _ rfl; (with_reducible repeat (first | refine blk_drewN ?_ _ | refine blk_drew ?_ | refine blk_alloc ?_ _)); refine blk_put (cs := #[.bool false, .int .i64 0, .int .i64 0]) ?_ 0 _ rfl; (with_reducible repeat (first | refine blk_drewN ?_ _ | refine blk_drew ?_ | refine blk_alloc ?_ _)); exact BK117.out) Try.underlying26 rfl (by kernel_rfl)) rfl ?_
    exact ⟨by first | rfl | (simp [errW_none, errW_some] <;> rfl) | (simp [*, errW_none, errW_some] <;> rfl), by repeat (first | (with_reducible first | exact HB.out | apply below_alloc | apply pw_below_drewN | apply below_drew1 | refine below_set ?_ GE117.out) | exact HB.out)⟩

/-! ### laws_eqAddr: function 33 -/
def laws_eqAddr.f (a0_0 : Bool) (a0_1 : Int) (a0_2 : Int) (a1_0 : Bool) (a1_1 : Int) (a1_2 : Int) : Option (Bool) := if (a0_0 != a1_0) = true then (some false) else (if a0_1 = a1_1 then (if a0_2 = a1_2 then (some true) else (some false)) else (some false))
set_option maxHeartbeats 8000000 in
set_option maxRecDepth 100000 in
theorem laws_eqAddr.calls (a0_0 : Bool) (a0_1 : Int) (a0_2 : Int) (a1_0 : Bool) (a1_1 : Int) (a1_2 : Int) (r : Bool) (w : World) (h : laws_eqAddr.f a0_0 a0_1 a0_2 a1_0 a1_1 a1_2 = some r) :
    Calls Try.prog 33 #[.agg #[.bool a0_0, .int .i64 a0_1, .int .i64 a0_2], .agg #[.bool a1_0, .int .i64 a1_1, .int .i64 a1_2]] w fun e w' => e = .returned (.bool r) ∧ Below w.heap.size w w' := by
  have hu26 := Try.underlying26
  have HB := Aside0.mk (Below.refl w.heap.size w)
  have H : (if (a0_0 != a1_0) = true then (some false) else (if a0_1 = a1_1 then (if a0_2 = a1_2 then (some true) else (some false)) else (some false))) = some r := h
  clear h
  by_cases c3 : (a0_0 != a1_0) = true
  · rw [if_pos c3] at H
    have c3b0 : (a0_0 != a1_0) = true := c3
    (try (have c3b1 : decide (a0_0 = a1_0) = false := by simpa using c3))
    (try (have c3b2 : (a0_0 == a1_0) = false := by simpa using c3))
    (try (have c3b3 : ¬ (a0_0 = a1_0) := by simpa using c3))
    clear c3
    obtain rfl := Option.some.inj H
    go_enter Try.func33, Try.ntmps33
    go_wp2_with (first | ((with_reducible refine gate_dst (N := 2) rfl ?_); refine box_event ?hg (N := 2) ?hd (cs := #[.bool a0_0, .int .i64 a0_1, .int .i64 a0_2]) (t := 26) ?hr ?_; (case hd => rfl); (case hg => rfl); (case hr => first | (go_simp; done) | (go_simp; rfl)); intro gb128 hg w4 hbox hb; have n0_ := Aside0.mk (below_step (by repeat (first | (with_reducible first | exact HB.out | apply below_alloc | apply pw_below_drewN | apply below_drew1) | exact HB.out)) hb); have n1_ := Aside0.mk (hbox); have n2_ := Aside0.mk ((by rw [hg]; exact (below_size (by repeat (first | (with_reducible first | exact HB.out | apply below_alloc | apply pw_below_drewN | apply below_drew1) | exact HB.out))) : w.heap.size ≤ gb128)); have n3_ := Aside0.mk ((by rw [hg]; exact (below_size (by repeat (first | (with_reducible first | exact HB.out | apply below_alloc | apply pw_below_drewN | apply below_drew1) | exact HB.out))) : w.heap.size ≤ gb128)); clear HB; have HB := n0_; have BK128 := n1_; have GW128 := n2_; have GE128 := n3_; clear n0_ n1_ n2_ n3_; clear hb hbox hg) | ((with_reducible refine gate_dst (N := 3) rfl ?_); refine box_event ?hg (N := 3) ?hd (cs := #[.bool a1_0, .int .i64 a1_1, .int .i64 a1_2]) (t := 26) ?hr ?_; (case hd => rfl); (case hg => rfl); (case hr => first | (go_simp; done) | (go_simp; rfl)); intro gb129 hg w5 hbox hb; have n0_ := Aside0.mk (blk_below (g := gb128) (o := .cells #[.bool a0_0, .int .i64 a0_1, .int .i64 a0_2] 26 (0, 0)) (by (with_reducible repeat (first | refine blk_drewN ?_ _ | refine blk_drew ?_ | refine blk_alloc ?_ _)); exact BK128.out) hb); have n1_ := Aside0.mk (below_step (by repeat (first | (with_reducible first | exact HB.out | apply below_alloc | apply pw_below_drewN | apply below_drew1 | refine below_set ?_ GE128.out) | exact HB.out)) hb); have n2_ := Aside0.mk (hbox); have n3_ := Aside0.mk ((by rw [hg]; exact (below_size (by repeat (first | (with_reducible first | exact HB.out | apply below_alloc | apply pw_below_drewN | apply below_drew1 | refine below_set ?_ GE128.out) | exact HB.out))) : w.heap.size ≤ gb129)); have n4_ := Aside0.mk ((by rw [hg]; exact (below_size (by repeat (first | (with_reducible first | exact HB.out | apply below_alloc | apply pw_below_drewN | apply below_drew1 | refine below_set ?_ GE128.out) | exact HB.out))) : w.heap.size ≤ gb129)); have n5_ := Aside0.mk ((by rw [hg]; exact Nat.ne_of_lt (blk_lt (g := gb128) (o := .cells #[.bool a0_0, .int .i64 a0_1, .int .i64 a0_2] 26 (0, 0)) (by (with_reducible repeat (first | refine blk_drewN ?_ _ | refine blk_drew ?_ | refine blk_alloc ?_ _)); exact BK128.out)) : gb128 ≠ gb129)); have n6_ := Aside0.mk ((by rw [hg]; exact Nat.ne_of_gt (blk_lt (g := gb128) (o := .cells #[.bool a0_0, .int .i64 a0_1, .int .i64 a0_2] 26 (0, 0)) (by (with_reducible repeat (first | refine blk_drewN ?_ _ | refine blk_drew ?_ | refine blk_alloc ?_ _)); exact BK128.out)) : gb129 ≠ gb128)); clear BK128; clear HB; have BK128 := n0_; have HB := n1_; have BK129 := n2_; have GW129 := n3_; have GE129 := n4_; have NB128_129 := n5_; have NB129_128 := n6_; clear n0_ n1_ n2_ n3_ n4_ n5_ n6_; clear hb hbox hg; have hnb6 := NB128_129.out; have hnc6 := NB129_128.out; have hcz7_0 : w5.cell? ⟨gb128, 0, none⟩ = some (.bool a0_0) := (blk_cell BK128.out 0).trans rfl; have hcz7_1 : w5.cell? ⟨gb128, 1, none⟩ = some (.int .i64 a0_1) := (blk_cell BK128.out 1).trans rfl; have hcz7_2 : w5.cell? ⟨gb128, 2, none⟩ = some (.int .i64 a0_2) := (blk_cell BK128.out 2).trans rfl; have hfz7_0 := blk_frozen BK128.out 0; have hfz7_1 := blk_frozen BK128.out 1; have hfz7_2 := blk_frozen BK128.out 2; have hcz8_0 : w5.cell? ⟨gb129, 0, none⟩ = some (.bool a1_0) := (blk_cell BK129.out 0).trans rfl; have hcz8_1 : w5.cell? ⟨gb129, 1, none⟩ = some (.int .i64 a1_1) := (blk_cell BK129.out 1).trans rfl; have hcz8_2 : w5.cell? ⟨gb129, 2, none⟩ = some (.int .i64 a1_2) := (blk_cell BK129.out 2).trans rfl; have hfz8_0 := blk_frozen BK129.out 0; have hfz8_1 := blk_frozen BK129.out 1; have hfz8_2 := blk_frozen BK129.out 2))
    go_ret
    exact ⟨by first | rfl | (simp [errW_none, errW_some] <;> rfl) | (simp [*, errW_none, errW_some] <;> rfl), by repeat (first | (with_reducible first | exact HB.out | apply below_alloc | apply pw_below_drewN | apply below_drew1 | refine below_set ?_ GE128.out | refine below_set ?_ GE129.out) | exact HB.out)⟩
  · rw [if_neg c3] at H
    have c3b0 : (a0_0 != a1_0) = false := by simpa using c3
    (try (have c3b1 : decide (a0_0 = a1_0) = true := by simpa using c3))
    (try (have c3b2 : (a0_0 == a1_0) = true := by simpa using c3))
    clear c3
    by_cases c9 : a0_1 = a1_1
    · rw [if_pos c9] at H
      have c9b0 : (a0_1 == a1_1) = true := beq_iff_eq.mpr c9
      have c9b1 : (a0_1 != a1_1) = false := bne_eq_false_iff_eq.mpr c9
      clear c9
      by_cases c10 : a0_2 = a1_2
      · rw [if_pos c10] at H
        have c10b0 : (a0_2 == a1_2) = true := beq_iff_eq.mpr c10
        have c10b1 : (a0_2 != a1_2) = false := bne_eq_false_iff_eq.mpr c10
        clear c10
        obtain rfl := Option.some.inj H
        go_enter Try.func33, Try.ntmps33
        go_wp2_with (first | ((with_reducible refine gate_dst (N := 2) rfl ?_); refine box_event ?hg (N := 2) ?hd (cs := #[.bool a0_0, .int .i64 a0_1, .int .i64 a0_2]) (t := 26) ?hr ?_; (case hd => rfl); (case hg => rfl); (case hr => first | (go_simp; done) | (go_simp; rfl)); intro gb128 hg w11 hbox hb; have n0_ := Aside0.mk (below_step (by repeat (first | (with_reducible first | exact HB.out | apply below_alloc | apply pw_below_drewN | apply below_drew1) | exact HB.out)) hb); have n1_ := Aside0.mk (hbox); have n2_ := Aside0.mk ((by rw [hg]; exact (below_size (by repeat (first | (with_reducible first | exact HB.out | apply below_alloc | apply pw_below_drewN | apply below_drew1) | exact HB.out))) : w.heap.size ≤ gb128)); have n3_ := Aside0.mk ((by rw [hg]; exact (below_size (by repeat (first | (with_reducible first | exact HB.out | apply below_alloc | apply pw_below_drewN | apply below_drew1) | exact HB.out))) : w.heap.size ≤ gb128)); clear HB; have HB := n0_; have BK128 := n1_; have GW128 := n2_; have GE128 := n3_; clear n0_ n1_ n2_ n3_; clear hb hbox hg) | ((with_reducible refine gate_dst (N := 3) rfl ?_); refine box_event ?hg (N := 3) ?hd (cs := #[.bool a1_0, .int .i64 a1_1, .int .i64 a1_2]) (t := 26) ?hr ?_; (case hd => rfl); (case hg => rfl); (case hr => first | (go_simp; done) | (go_simp; rfl)); intro gb129 hg w12 hbox hb; have n0_ := Aside0.mk (blk_below (g := gb128) (o := .cells #[.bool a0_0, .int .i64 a0_1, .int .i64 a0_2] 26 (0, 0)) (by (with_reducible repeat (first | refine blk_drewN ?_ _ | refine blk_drew ?_ | refine blk_alloc ?_ _)); exact BK128.out) hb); have n1_ := Aside0.mk (below_step (by repeat (first | (with_reducible first | exact HB.out | apply below_alloc | apply pw_below_drewN | apply below_drew1 | refine below_set ?_ GE128.out) | exact HB.out)) hb); have n2_ := Aside0.mk (hbox); have n3_ := Aside0.mk ((by rw [hg]; exact (below_size (by repeat (first | (with_reducible first | exact HB.out | apply below_alloc | apply pw_below_drewN | apply below_drew1 | refine below_set ?_ GE128.out) | exact HB.out))) : w.heap.size ≤ gb129)); have n4_ := Aside0.mk ((by rw [hg]; exact (below_size (by repeat (first | (with_reducible first | exact HB.out | apply below_alloc | apply pw_below_drewN | apply below_drew1 | refine below_set ?_ GE128.out) | exact HB.out))) : w.heap.size ≤ gb129)); have n5_ := Aside0.mk ((by rw [hg]; exact Nat.ne_of_lt (blk_lt (g := gb128) (o := .cells #[.bool a0_0, .int .i64 a0_1, .int .i64 a0_2] 26 (0, 0)) (by (with_reducible repeat (first | refine blk_drewN ?_ _ | refine blk_drew ?_ | refine blk_alloc ?_ _)); exact BK128.out)) : gb128 ≠ gb129)); have n6_ := Aside0.mk ((by rw [hg]; exact Nat.ne_of_gt (blk_lt (g := gb128) (o := .cells #[.bool a0_0, .int .i64 a0_1, .int .i64 a0_2] 26 (0, 0)) (by (with_reducible repeat (first | refine blk_drewN ?_ _ | refine blk_drew ?_ | refine blk_alloc ?_ _)); exact BK128.out)) : gb129 ≠ gb128)); clear BK128; clear HB; have BK128 := n0_; have HB := n1_; have BK129 := n2_; have GW129 := n3_; have GE129 := n4_; have NB128_129 := n5_; have NB129_128 := n6_; clear n0_ n1_ n2_ n3_ n4_ n5_ n6_; clear hb hbox hg; have hnb13 := NB128_129.out; have hnc13 := NB129_128.out; have hcz14_0 : w12.cell? ⟨gb128, 0, none⟩ = some (.bool a0_0) := (blk_cell BK128.out 0).trans rfl; have hcz14_1 : w12.cell? ⟨gb128, 1, none⟩ = some (.int .i64 a0_1) := (blk_cell BK128.out 1).trans rfl; have hcz14_2 : w12.cell? ⟨gb128, 2, none⟩ = some (.int .i64 a0_2) := (blk_cell BK128.out 2).trans rfl; have hfz14_0 := blk_frozen BK128.out 0; have hfz14_1 := blk_frozen BK128.out 1; have hfz14_2 := blk_frozen BK128.out 2; have hcz15_0 : w12.cell? ⟨gb129, 0, none⟩ = some (.bool a1_0) := (blk_cell BK129.out 0).trans rfl; have hcz15_1 : w12.cell? ⟨gb129, 1, none⟩ = some (.int .i64 a1_1) := (blk_cell BK129.out 1).trans rfl; have hcz15_2 : w12.cell? ⟨gb129, 2, none⟩ = some (.int .i64 a1_2) := (blk_cell BK129.out 2).trans rfl; have hfz15_0 := blk_frozen BK129.out 0; have hfz15_1 := blk_frozen BK129.out 1; have hfz15_2 := blk_frozen BK129.out 2))
        go_ret
        exact ⟨by first | rfl | (simp [errW_none, errW_some] <;> rfl) | (simp [*, errW_none, errW_some] <;> rfl), by repeat (first | (with_reducible first | exact HB.out | apply below_alloc | apply pw_below_drewN | apply below_drew1 | refine below_set ?_ GE128.out | refine below_set ?_ GE129.out) | exact HB.out)⟩
      · rw [if_neg c10] at H
        have c10b0 : (a0_2 == a1_2) = false := beq_eq_false_iff_ne.mpr c10
        have c10b1 : (a0_2 != a1_2) = true := bne_iff_ne.mpr c10
        obtain rfl := Option.some.inj H
        go_enter Try.func33, Try.ntmps33
        go_wp2_with (first | ((with_reducible refine gate_dst (N := 2) rfl ?_); refine box_event ?hg (N := 2) ?hd (cs := #[.bool a0_0, .int .i64 a0_1, .int .i64 a0_2]) (t := 26) ?hr ?_; (case hd => rfl); (case hg => rfl); (case hr => first | (go_simp; done) | (go_simp; rfl)); intro gb128 hg w16 hbox hb; have n0_ := Aside0.mk (below_step (by repeat (first | (with_reducible first | exact HB.out | apply below_alloc | apply pw_below_drewN | apply below_drew1) | exact HB.out)) hb); have n1_ := Aside0.mk (hbox); have n2_ := Aside0.mk ((by rw [hg]; exact (below_size (by repeat (first | (with_reducible first | exact HB.out | apply below_alloc | apply pw_below_drewN | apply below_drew1) | exact HB.out))) : w.heap.size ≤ gb128)); have n3_ := Aside0.mk ((by rw [hg]; exact (below_size (by repeat (first | (with_reducible first | exact HB.out | apply below_alloc | apply pw_below_drewN | apply below_drew1) | exact HB.out))) : w.heap.size ≤ gb128)); clear HB; have HB := n0_; have BK128 := n1_; have GW128 := n2_; have GE128 := n3_; clear n0_ n1_ n2_ n3_; clear hb hbox hg) | ((with_reducible refine gate_dst (N := 3) rfl ?_); refine box_event ?hg (N := 3) ?hd (cs := #[.bool a1_0, .int .i64 a1_1, .int .i64 a1_2]) (t := 26) ?hr ?_; (case hd => rfl); (case hg => rfl); (case hr => first | (go_simp; done) | (go_simp; rfl)); intro gb129 hg w17 hbox hb; have n0_ := Aside0.mk (blk_below (g := gb128) (o := .cells #[.bool a0_0, .int .i64 a0_1, .int .i64 a0_2] 26 (0, 0)) (by (with_reducible repeat (first | refine blk_drewN ?_ _ | refine blk_drew ?_ | refine blk_alloc ?_ _)); exact BK128.out) hb); have n1_ := Aside0.mk (below_step (by repeat (first | (with_reducible first | exact HB.out | apply below_alloc | apply pw_below_drewN | apply below_drew1 | refine below_set ?_ GE128.out) | exact HB.out)) hb); have n2_ := Aside0.mk (hbox); have n3_ := Aside0.mk ((by rw [hg]; exact (below_size (by repeat (first | (with_reducible first | exact HB.out | apply below_alloc | apply pw_below_drewN | apply below_drew1 | refine below_set ?_ GE128.out) | exact HB.out))) : w.heap.size ≤ gb129)); have n4_ := Aside0.mk ((by rw [hg]; exact (below_size (by repeat (first | (with_reducible first | exact HB.out | apply below_alloc | apply pw_below_drewN | apply below_drew1 | refine below_set ?_ GE128.out) | exact HB.out))) : w.heap.size ≤ gb129)); have n5_ := Aside0.mk ((by rw [hg]; exact Nat.ne_of_lt (blk_lt (g := gb128) (o := .cells #[.bool a0_0, .int .i64 a0_1, .int .i64 a0_2] 26 (0, 0)) (by (with_reducible repeat (first | refine blk_drewN ?_ _ | refine blk_drew ?_ | refine blk_alloc ?_ _)); exact BK128.out)) : gb128 ≠ gb129)); have n6_ := Aside0.mk ((by rw [hg]; exact Nat.ne_of_gt (blk_lt (g := gb128) (o := .cells #[.bool a0_0, .int .i64 a0_1, .int .i64 a0_2] 26 (0, 0)) (by (with_reducible repeat (first | refine blk_drewN ?_ _ | refine blk_drew ?_ | refine blk_alloc ?_ _)); exact BK128.out)) : gb129 ≠ gb128)); clear BK128; clear HB; have BK128 := n0_; have HB := n1_; have BK129 := n2_; have GW129 := n3_; have GE129 := n4_; have NB128_129 := n5_; have NB129_128 := n6_; clear n0_ n1_ n2_ n3_ n4_ n5_ n6_; clear hb hbox hg; have hnb18 := NB128_129.out; have hnc18 := NB129_128.out; have hcz19_0 : w17.cell? ⟨gb128, 0, none⟩ = some (.bool a0_0) := (blk_cell BK128.out 0).trans rfl; have hcz19_1 : w17.cell? ⟨gb128, 1, none⟩ = some (.int .i64 a0_1) := (blk_cell BK128.out 1).trans rfl; have hcz19_2 : w17.cell? ⟨gb128, 2, none⟩ = some (.int .i64 a0_2) := (blk_cell BK128.out 2).trans rfl; have hfz19_0 := blk_frozen BK128.out 0; have hfz19_1 := blk_frozen BK128.out 1; have hfz19_2 := blk_frozen BK128.out 2; have hcz20_0 : w17.cell? ⟨gb129, 0, none⟩ = some (.bool a1_0) := (blk_cell BK129.out 0).trans rfl; have hcz20_1 : w17.cell? ⟨gb129, 1, none⟩ = some (.int .i64 a1_1) := (blk_cell BK129.out 1).trans rfl; have hcz20_2 : w17.cell? ⟨gb129, 2, none⟩ = some (.int .i64 a1_2) := (blk_cell BK129.out 2).trans rfl; have hfz20_0 := blk_frozen BK129.out 0; have hfz20_1 := blk_frozen BK129.out 1; have hfz20_2 := blk_frozen BK129.out 2))
        go_ret
        exact ⟨by first | rfl | (simp [errW_none, errW_some] <;> rfl) | (simp [*, errW_none, errW_some] <;> rfl), by repeat (first | (with_reducible first | exact HB.out | apply below_alloc | apply pw_below_drewN | apply below_drew1 | refine below_set ?_ GE128.out | refine below_set ?_ GE129.out) | exact HB.out)⟩
    · rw [if_neg c9] at H
      have c9b0 : (a0_1 == a1_1) = false := beq_eq_false_iff_ne.mpr c9
      have c9b1 : (a0_1 != a1_1) = true := bne_iff_ne.mpr c9
      obtain rfl := Option.some.inj H
      go_enter Try.func33, Try.ntmps33
      go_wp2_with (first | ((with_reducible refine gate_dst (N := 2) rfl ?_); refine box_event ?hg (N := 2) ?hd (cs := #[.bool a0_0, .int .i64 a0_1, .int .i64 a0_2]) (t := 26) ?hr ?_; (case hd => rfl); (case hg => rfl); (case hr => first | (go_simp; done) | (go_simp; rfl)); intro gb128 hg w21 hbox hb; have n0_ := Aside0.mk (below_step (by repeat (first | (with_reducible first | exact HB.out | apply below_alloc | apply pw_below_drewN | apply below_drew1) | exact HB.out)) hb); have n1_ := Aside0.mk (hbox); have n2_ := Aside0.mk ((by rw [hg]; exact (below_size (by repeat (first | (with_reducible first | exact HB.out | apply below_alloc | apply pw_below_drewN | apply below_drew1) | exact HB.out))) : w.heap.size ≤ gb128)); have n3_ := Aside0.mk ((by rw [hg]; exact (below_size (by repeat (first | (with_reducible first | exact HB.out | apply below_alloc | apply pw_below_drewN | apply below_drew1) | exact HB.out))) : w.heap.size ≤ gb128)); clear HB; have HB := n0_; have BK128 := n1_; have GW128 := n2_; have GE128 := n3_; clear n0_ n1_ n2_ n3_; clear hb hbox hg) | ((with_reducible refine gate_dst (N := 3) rfl ?_); refine box_event ?hg (N := 3) ?hd (cs := #[.bool a1_0, .int .i64 a1_1, .int .i64 a1_2]) (t := 26) ?hr ?_; (case hd => rfl); (case hg => rfl); (case hr => first | (go_simp; done) | (go_simp; rfl)); intro gb129 hg w22 hbox hb; have n0_ := Aside0.mk (blk_below (g := gb128) (o := .cells #[.bool a0_0, .int .i64 a0_1, .int .i64 a0_2] 26 (0, 0)) (by (with_reducible repeat (first | refine blk_drewN ?_ _ | refine blk_drew ?_ | refine blk_alloc ?_ _)); exact BK128.out) hb); have n1_ := Aside0.mk (below_step (by repeat (first | (with_reducible first | exact HB.out | apply below_alloc | apply pw_below_drewN | apply below_drew1 | refine below_set ?_ GE128.out) | exact HB.out)) hb); have n2_ := Aside0.mk (hbox); have n3_ := Aside0.mk ((by rw [hg]; exact (below_size (by repeat (first | (with_reducible first | exact HB.out | apply below_alloc | apply pw_below_drewN | apply below_drew1 | refine below_set ?_ GE128.out) | exact HB.out))) : w.heap.size ≤ gb129)); have n4_ := Aside0.mk ((by rw [hg]; exact (below_size (by repeat (first | (with_reducible first | exact HB.out | apply below_alloc | apply pw_below_drewN | apply below_drew1 | refine below_set ?_ GE128.out) | exact HB.out))) : w.heap.size ≤ gb129)); have n5_ := Aside0.mk ((by rw [hg]; exact Nat.ne_of_lt (blk_lt (g := gb128) (o := .cells #[.bool a0_0, .int .i64 a0_1, .int .i64 a0_2] 26 (0, 0)) (by (with_reducible repeat (first | refine blk_drewN ?_ _ | refine blk_drew ?_ | refine blk_alloc ?_ _)); exact BK128.out)) : gb128 ≠ gb129)); have n6_ := Aside0.mk ((by rw [hg]; exact Nat.ne_of_gt (blk_lt (g := gb128) (o := .cells #[.bool a0_0, .int .i64 a0_1, .int .i64 a0_2] 26 (0, 0)) (by (with_reducible repeat (first | refine blk_drewN ?_ _ | refine blk_drew ?_ | refine blk_alloc ?_ _)); exact BK128.out)) : gb129 ≠ gb128)); clear BK128; clear HB; have BK128 := n0_; have HB := n1_; have BK129 := n2_; have GW129 := n3_; have GE129 := n4_; have NB128_129 := n5_; have NB129_128 := n6_; clear n0_ n1_ n2_ n3_ n4_ n5_ n6_; clear hb hbox hg; have hnb23 := NB128_129.out; have hnc23 := NB129_128.out; have hcz24_0 : w22.cell? ⟨gb128, 0, none⟩ = some (.bool a0_0) := (blk_cell BK128.out 0).trans rfl; have hcz24_1 : w22.cell? ⟨gb128, 1, none⟩ = some (.int .i64 a0_1) := (blk_cell BK128.out 1).trans rfl; have hcz24_2 : w22.cell? ⟨gb128, 2, none⟩ = some (.int .i64 a0_2) := (blk_cell BK128.out 2).trans rfl; have hfz24_0 := blk_frozen BK128.out 0; have hfz24_1 := blk_frozen BK128.out 1; have hfz24_2 := blk_frozen BK128.out 2; have hcz25_0 : w22.cell? ⟨gb129, 0, none⟩ = some (.bool a1_0) := (blk_cell BK129.out 0).trans rfl; have hcz25_1 : w22.cell? ⟨gb129, 1, none⟩ = some (.int .i64 a1_1) := (blk_cell BK129.out 1).trans rfl; have hcz25_2 : w22.cell? ⟨gb129, 2, none⟩ = some (.int .i64 a1_2) := (blk_cell BK129.out 2).trans rfl; have hfz25_0 := blk_frozen BK129.out 0; have hfz25_1 := blk_frozen BK129.out 1; have hfz25_2 := blk_frozen BK129.out 2))
      go_ret
      exact ⟨by first | rfl | (simp [errW_none, errW_some] <;> rfl) | (simp [*, errW_none, errW_some] <;> rfl), by repeat (first | (with_reducible first | exact HB.out | apply below_alloc | apply pw_below_drewN | apply below_drew1 | refine below_set ?_ GE128.out | refine below_set ?_ GE129.out) | exact HB.out)⟩

end Go.Proofs.Ytfidfiacjocooaa.QFnExactGetAddr
