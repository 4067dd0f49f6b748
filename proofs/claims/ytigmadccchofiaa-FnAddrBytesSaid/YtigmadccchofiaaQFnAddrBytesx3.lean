-- Written by a program of this session (wip/myprint.py); Lean checks it.
import Derived.Test.YtigmadccchofiaaQFnAddrBytesx0
import Derived.Test.YtigmadccchofiaaQFnAddrBytesx2
namespace Go.Proofs.Ytigmadccchofiaa.QFnAddrBytes
open Go.RowKit Go.Proofs.YtigmadccchofiaaW.PrintWords Go.Proofs.YtigmadccchofiaaW.PrintLast Go.Proofs.YtigmadccchofiaaW.PrintMore
attribute [local go_sem] max2_int min2_int max_two min_two max_three min_three max_four min_four   -- for this text's walks alone
set_option linter.unusedVariables false
set_option linter.unusedSimpArgs false

attribute [local go_sem] isSome_setCell
/-! ### slices_Concat_byte_byte: function 73 -/
mutual
def slices_Concat_byte_byte.l0 : Nat → List (List Int) → Int → List (List Int) → Int → Int → Option (List Int)
  | 0, _, _, _, _, _ => none
  | k + 1, x0, x3, x9, x10, x11 => if x11 < x10 then (if 0 ≤ x11 then (if x11 < (x9.length : Int) then (if (wrap64 (x3 + ((rd_L2 x9 x11).length : Int))) < 0 then (none) else (slices_Concat_byte_byte.l0 k x0 (wrap64 (x3 + ((rd_L2 x9 x11).length : Int))) x9 x10 (wrap64 (x11 + 1)))) else (none)) else (none)) else ((slices_Grow_byte_byte.f ([] : List Int) x3).bind fun t197 => (slices_Concat_byte_byte.l1 k t197 x0 (x0.length : Int) 0))
def slices_Concat_byte_byte.l1 : Nat → List Int → List (List Int) → Int → Int → Option (List Int)
  | 0, _, _, _, _ => none
  | k + 1, x6, x25, x26, x27 => if x27 < x26 then (if 0 ≤ x27 then (if x27 < (x25.length : Int) then (if x6.length + (rd_L2 x25 x27).length < 140737488355328 then (slices_Concat_byte_byte.l1 k (x6 ++ (rd_L2 x25 x27)) x25 x26 (wrap64 (x27 + 1))) else (none)) else (none)) else (none)) else (some x6)
end
def slices_Concat_byte_byte.f (k : Nat) (l0 : List (List Int)) : Option (List Int) := slices_Concat_byte_byte.l0 k l0 0 l0 (l0.length : Int) 0
theorem slices_Concat_byte_byte.mono_l : ∀ k, (∀ y0 y1 y2 y3 y4, LeO (slices_Concat_byte_byte.l0 k y0 y1 y2 y3 y4) (slices_Concat_byte_byte.l0 (k + 1) y0 y1 y2 y3 y4)) ∧ (∀ y0 y1 y2 y3, LeO (slices_Concat_byte_byte.l1 k y0 y1 y2 y3) (slices_Concat_byte_byte.l1 (k + 1) y0 y1 y2 y3))
  | 0 => ⟨fun _ _ _ _ _ r h => by simp [slices_Concat_byte_byte.l0] at h, fun _ _ _ _ r h => by simp [slices_Concat_byte_byte.l1] at h⟩
  | k + 1 => by
    obtain ⟨ih0, ih1⟩ := slices_Concat_byte_byte.mono_l k
    refine ⟨?_, ?_⟩
    · intro y0 y1 y2 y3 y4
      unfold slices_Concat_byte_byte.l0
      repeat' first
      | (with_reducible exact ih0 _ _ _ _ _)
      | (with_reducible exact ih1 _ _ _ _)
      | (with_reducible exact LeO.refl _)
      | (with_reducible exact LeO.none _)
      | (with_reducible refine LeO.ite ?_ ?_)
      | (with_reducible refine LeO.bind ?_ (fun _ => ?_))
      | exact ih0 _ _ _ _ _
      | exact ih1 _ _ _ _
      | exact LeO.none _
      | refine LeO.ite ?_ ?_
      | refine LeO.bind ?_ (fun _ => ?_)
    · intro y0 y1 y2 y3
      unfold slices_Concat_byte_byte.l1
      repeat' first
      | (with_reducible exact ih0 _ _ _ _ _)
      | (with_reducible exact ih1 _ _ _ _)
      | (with_reducible exact LeO.refl _)
      | (with_reducible exact LeO.none _)
      | (with_reducible refine LeO.ite ?_ ?_)
      | (with_reducible refine LeO.bind ?_ (fun _ => ?_))
      | exact ih0 _ _ _ _ _
      | exact ih1 _ _ _ _
      | exact LeO.none _
      | refine LeO.ite ?_ ?_
      | refine LeO.bind ?_ (fun _ => ?_)
theorem slices_Concat_byte_byte.mono : ∀ a0 k, LeO (slices_Concat_byte_byte.f k a0) (slices_Concat_byte_byte.f (k + 1) a0) := by
  intro a0 k
  obtain ⟨ih0, ih1⟩ := slices_Concat_byte_byte.mono_l k
  unfold slices_Concat_byte_byte.f
  repeat' first
      | (with_reducible exact ih0 _ _ _ _ _)
      | (with_reducible exact ih1 _ _ _ _)
      | (with_reducible exact LeO.refl _)
      | (with_reducible exact LeO.none _)
      | (with_reducible refine LeO.ite ?_ ?_)
      | (with_reducible refine LeO.bind ?_ (fun _ => ?_))
      | exact ih0 _ _ _ _ _
      | exact ih1 _ _ _ _
      | exact LeO.none _
      | refine LeO.ite ?_ ?_
      | refine LeO.bind ?_ (fun _ => ?_)
set_option maxHeartbeats 8000000 in
set_option maxRecDepth 100000 in
theorem slices_Concat_byte_byte.calls (k : Nat) (A0 : Option Addr) (c0 : Nat) (l0 : List (List Int)) (r : List Int) (w : World) (hr0 : Kd.C (Kd.slice 5 (Kd.int .u8)) w A0 l0.length l0) (hc0 : l0.length ≤ c0) (h : slices_Concat_byte_byte.f k l0 = some r) :
    Calls Try.prog 73 #[.slice A0 l0.length c0] w fun e w' => ∃ v0_ : Value, e = .returned (v0_) ∧ Kd.R (Kd.int .u8) 5 w' w.heap.size (fun _ => True) v0_ r ∧ Below w.heap.size w w' := by
  have HR0 := Aside0.mk hr0
  have HC0 := Aside0.mk hc0
  clear hr0 hc0
  have HB := Aside0.mk (Below.refl w.heap.size w)
  have H : (slices_Concat_byte_byte.l0 k l0 0 l0 (l0.length : Int) 0) = some r := h
  clear h
  have H' := Aside0.mk H
  clear H
  go_enter Try.func73, Try.ntmps73
  go_wp2
  go_loopg [3, 11] k (fun kq v3 v11 w' => ∃ (x3_1 : Int) (x11_1 : Int), v3 = .int .i64 x3_1 ∧ v11 = .int .i64 x11_1 ∧ Aside0 (slices_Concat_byte_byte.l0 kq l0 x3_1 l0 (l0.length : Int) x11_1 = some r) ∧ Aside0 (kq ≤ k) ∧ Aside0 (Below w.heap.size w w'))
  case atStart => exact ⟨(0), (0), (by first | rfl | (simp; done) | (simp [*]; done)), (by first | rfl | (simp; done) | (simp [*]; done)), H', ⟨Nat.le_refl _⟩, ⟨by repeat (first | (with_reducible first | exact HB.out | apply below_alloc | apply pw_below_drewN | apply below_drew1) | exact HB.out)⟩⟩
  case round =>
    clear H'
    obtain ⟨x3_1, x11_1, rfl, rfl, HA, HK1, HB⟩ := hrel
    cases gk with
    | zero => exact absurd HA.out (by simp [slices_Concat_byte_byte.l0])
    | succ k1 =>
      have H := HA.out
      clear HA
      simp only [slices_Concat_byte_byte.l0] at H
      by_cases c2 : x11_1 < (l0.length : Int)
      · rw [if_pos c2] at H
        have c2b0 : decide (x11_1 < (l0.length : Int)) = true := decide_eq_true c2
        clear c2
        by_cases c3 : 0 ≤ x11_1
        · rw [if_pos c3] at H
          have c3b0 : decide (0 ≤ x11_1) = true := decide_eq_true c3
          clear c3
          by_cases c4 : x11_1 < (l0.length : Int)
          · rw [if_pos c4] at H
            have c4b0 : decide (x11_1 < (l0.length : Int)) = true := decide_eq_true c4
            clear c4
            by_cases c5 : (wrap64 (x3_1 + ((rd_L2 l0 x11_1).length : Int))) < 0
            · rw [if_pos c5] at H
              exact absurd H (by simp)
            · rw [if_neg c5] at H
              have c5b0 : decide ((wrap64 (x3_1 + ((rd_L2 l0 x11_1).length : Int))) < 0) = false := decide_eq_false c5
              clear c5
              have H' := Aside0.mk H
              clear H
              have p196 : 0 ≤ (x11_1 : Int) := of_decide_eq_true (by first | (with_reducible assumption) | assumption)
              have q196 : x11_1 < (l0.length : Int) := of_decide_eq_true (by first | (with_reducible assumption) | assumption)
              obtain ⟨ad196, A196_0, c196_0, e196, hx196_0, hl196_0, hi196_0⟩ := at_L2 HR0.out x11_1 p196 q196
              cases e196
              replace hx196_0 := (HB.out.cell (World.block_lt_of_cell? w _ hx196_0)).trans hx196_0
              have HR196_0 := Aside0.mk hi196_0
              have HC196_0 := Aside0.mk hl196_0
              clear hi196_0 hl196_0
              replace p196 := eq_true p196
              replace q196 := eq_true q196
              go_wp2
              go_roundg k1
              case measure => have := HK1.out; omega
              case rel => exact ⟨(wrap64 (x3_1 + ((rd_L2 l0 x11_1).length : Int))), (wrap64 (x11_1 + 1)), (by first | rfl | (simp; done) | (simp [*]; done)), (by first | rfl | (simp; done) | (simp [*]; done)), H', ⟨by have := HK1.out; omega⟩, ⟨by repeat (first | (with_reducible first | exact HB.out | apply below_alloc | apply pw_below_drewN | apply below_drew1) | exact HB.out)⟩⟩
          · rw [if_neg c4] at H
            exact absurd H (by simp)
        · rw [if_neg c3] at H
          exact absurd H (by simp)
      · rw [if_neg c2] at H
        have c2b0 : decide (x11_1 < (l0.length : Int)) = false := decide_eq_false c2
        clear c2
        replace H := Option.bind_eq_some_iff.mp H
        obtain ⟨t197, A60, H⟩ := H
        replace H : (slices_Concat_byte_byte.l1 k1 t197 l0 (l0.length : Int) 0) = some r := H
        have A6 := Aside0.mk A60
        clear A60
        have H' := Aside0.mk H
        clear H
        go_wp2_with (first | ((with_reducible refine gate_callee (f := 118) rfl ?_); refine goesL_ (some 24) rfl rfl Try.func118 (by kernel_rfl) rfl #[.slice none 0 0, .int .i64 x3_1] rfl (by (try simp only [List.map_toArray, List.map_cons, List.map_nil]); first | done | rfl | (simp only [List.length_drop, List.length_take]; rfl)) ?_; (refine (slices_Grow_byte_byte.calls _ _ ([] : List Int) x3_1 t197 _ ?side1 ?side2 A6.out).mono ?_); (case side1 => exact Kd.C_nil _ _); (case side2 => exact Nat.le_refl _); rintro e w7 ⟨v198, rfl, ho0, hb⟩; refine ⟨_, rfl, ?_⟩; have n0_ := Aside0.mk (Kd.R_lower ho0 (below_size (by repeat (first | (with_reducible first | exact HB.out | apply below_alloc | apply pw_below_drewN | apply below_drew1) | exact HB.out)))); have n1_ := Aside0.mk (below_step (by repeat (first | (with_reducible first | exact HB.out | apply below_alloc | apply pw_below_drewN | apply below_drew1) | exact HB.out)) hb); clear HB; have HO199 := n0_; have HB := n1_; clear n0_ n1_; (try clear hb); (try clear hb2); (try clear hk); (try clear hi); (try clear ho0)))
        go_loopg [6, 27] k1 (fun kq v6 v27 w' => ∃ (x6_2 : List Int) (x27_2 : Int), v27 = .int .i64 x27_2 ∧ Aside0 (slices_Concat_byte_byte.l1 kq x6_2 l0 (l0.length : Int) x27_2 = some r) ∧ Aside0 (kq ≤ k1) ∧ Aside0 (Kd.R (Kd.int .u8) 5 w' w.heap.size (fun _ => True) v6 x6_2) ∧ Aside0 (Below w.heap.size w w'))
        case atStart => exact ⟨(t197), (0), (by first | rfl | (simp; done) | (simp [*]; done)), H', ⟨Nat.le_refl _⟩, ⟨by (with_reducible repeat (first | apply Kd.R_alloc | apply Kd.R_drewN | apply Kd.R_drew)); exact HO199.out⟩, ⟨by repeat (first | (with_reducible first | exact HB.out | apply below_alloc | apply pw_below_drewN | apply below_drew1) | exact HB.out)⟩⟩
        case round =>
          clear H'
          try clear c1
          try clear p1
          try clear q1
          try clear hx1
          try clear c2
          try clear c2b0
          try clear p2
          try clear c3
          try clear c3b0
          try clear c4
          try clear c4b0
          try clear c5
          try clear c5b0
          try clear p6
          try clear c7
          try clear hx196_0
          try clear p196
          try clear q196
          obtain ⟨x6_2, x27_2, rfl, HA, HK2, HO_6, HB⟩ := hrel
          cases gk with
          | zero => exact absurd HA.out (by simp [slices_Concat_byte_byte.l1])
          | succ k2 =>
            have H := HA.out
            clear HA
            simp only [slices_Concat_byte_byte.l1] at H
            by_cases c8 : x27_2 < (l0.length : Int)
            · rw [if_pos c8] at H
              have c8b0 : decide (x27_2 < (l0.length : Int)) = true := decide_eq_true c8
              clear c8
              by_cases c9 : 0 ≤ x27_2
              · rw [if_pos c9] at H
                have c9b0 : decide (0 ≤ x27_2) = true := decide_eq_true c9
                clear c9
                by_cases c10 : x27_2 < (l0.length : Int)
                · rw [if_pos c10] at H
                  have c10b0 : decide (x27_2 < (l0.length : Int)) = true := decide_eq_true c10
                  clear c10
                  by_cases c11 : x6_2.length + (rd_L2 l0 x27_2).length < 140737488355328
                  · rw [if_pos c11] at H
                    have LMc11 := Aside0.mk c11
                    clear c11
                    obtain ⟨y201, hy201⟩ : ∃ y_ : List Int, y_ = (x6_2 ++ (rd_L2 l0 x27_2)) := ⟨_, rfl⟩
                    replace H : (slices_Concat_byte_byte.l1 k2 y201 l0 (l0.length : Int) (wrap64 (x27_2 + 1))) = some r := by first | (rw [hy201]; with_reducible exact H) | (have H2_ := (Option.bind_some _ _).symm.trans H; rw [hy201]; with_reducible exact H2_) | (have H2_ := (Option.bind_some _ _).symm.trans H; with_reducible exact H2_) | with_reducible exact H | (rw [hy201]; exact H) | exact H
                    have Ny201 := Aside0.mk hy201
                    clear hy201
                    have H' := Aside0.mk H
                    clear H
                    have p200 : 0 ≤ (x27_2 : Int) := of_decide_eq_true (by first | (with_reducible assumption) | assumption)
                    have q200 : x27_2 < (l0.length : Int) := of_decide_eq_true (by first | (with_reducible assumption) | assumption)
                    obtain ⟨ad200, A200_0, c200_0, e200, hx200_0, hl200_0, hi200_0⟩ := at_L2 HR0.out x27_2 p200 q200
                    cases e200
                    replace hx200_0 := (HB.out.cell (World.block_lt_of_cell? w _ hx200_0)).trans hx200_0
                    have HR200_0 := Aside0.mk hi200_0
                    have HC200_0 := Aside0.mk hl200_0
                    clear hi200_0 hl200_0
                    replace p200 := eq_true p200
                    replace q200 := eq_true q200
                    go_wp2_with (first | ((with_reducible refine gate_builtin (b := .append) (xs := #[.tmp 31, .tmp 32]) rfl ?_); at_builtin; refine Kd.R_append_rows (Kd.int .u8) (w0 := w) w.heap.size rfl (.tmp 31) (.tmp 32) 38 5 (.int .u8 0) 1 rfl Try.underlying38 info5 rfl (by decide) (by omega) u6 x6_2 (rd_L2 l0 x27_2) _ _ _ (fun _ => True) (fun _ => False) rfl rfl ?aO ?aR (fun _ _ h => h) (fun _ h => h.elim) ?aF ?aB ?aS ?aL ?_; (case aR => repeat (first | exact (Kd.C_below HR200_0.out HB.out) | (with_reducible refine Kd.C_alloc ?_ _) | (with_reducible refine Kd.C_drewN ?_ _) | (with_reducible refine Kd.C_drew ?_))); (case aB => exact (by repeat (first | (with_reducible first | exact HB.out | apply below_alloc | apply pw_below_drewN | apply below_drew1) | exact HB.out))); (case aF => exact (fun _ _ => trivial)); (case aO => exact (by (with_reducible repeat (first | apply Kd.R_alloc | apply Kd.R_drewN | apply Kd.R_drew)); exact HO_6.out)); (case aS => exact (below_size (by repeat (first | (with_reducible first | exact HB.out | apply below_alloc | apply pw_below_drewN | apply below_drew1) | exact HB.out)))); (case aL => have := LMc11.out; omega); intro v202 w12 ho hb hg hat; rw [← Ny201.out] at ho; have n0_ := Aside0.mk (hb); have n1_ := Aside0.mk (ho); clear HB; clear HO_6; have HB := n0_; have HO203 := n1_; clear n0_ n1_; clear ho hb hg hat))
                    go_roundg k2
                    case measure => have := HK1.out; have := HK2.out; omega
                    case rel => exact ⟨(y201), (wrap64 (x27_2 + 1)), (by first | rfl | (simp; done) | (simp [*]; done)), H', ⟨by have := HK1.out; have := HK2.out; omega⟩, ⟨by (with_reducible repeat (first | apply Kd.R_alloc | apply Kd.R_drewN | apply Kd.R_drew)); exact HO203.out⟩, ⟨by repeat (first | (with_reducible first | exact HB.out | apply below_alloc | apply pw_below_drewN | apply below_drew1) | exact HB.out)⟩⟩
                  · rw [if_neg c11] at H
                    exact absurd H (by simp)
                · rw [if_neg c10] at H
                  exact absurd H (by simp)
              · rw [if_neg c9] at H
                exact absurd H (by simp)
            · rw [if_neg c8] at H
              have c8b0 : decide (x27_2 < (l0.length : Int)) = false := decide_eq_false c8
              clear c8
              obtain rfl := Option.some.inj H
              go_wp2
              go_ret
              exact ⟨_, by first | rfl | (simp [errW_none, errW_some] <;> rfl) | (simp [*, errW_none, errW_some] <;> rfl), by (with_reducible repeat (first | apply Kd.R_alloc | apply Kd.R_drewN | apply Kd.R_drew)); exact HO_6.out, by repeat (first | (with_reducible first | exact HB.out | apply below_alloc | apply pw_below_drewN | apply below_drew1) | exact HB.out)⟩

/-! ### impl_wide: function 74 -/
def impl_wide.l0 : Nat → Int → List Int → Int → Option (List Int)
  | 0, _, _, _ => none
  | k + 1, x0, x5, x6 => if x6 ≥ 0 then (if 0 ≤ (wrap64 (8 * x6)) then (if x5.length < 140737488355328 then (impl_wide.l0 k x0 (x5 ++ [(shr .u64 (IntKind.u64.wrap (x0)) (wrap64 (8 * x6))) % 256]) (wrap64 (x6 - 1))) else (none)) else (none)) else (some x5)
def impl_wide.f (k : Nat) (a0 : Int) (a1 : Int) : Option (List Int) := impl_wide.l0 k a0 (([] : List Int)) (wrap64 (a1 - 1))
theorem impl_wide.mono_l : ∀ k, (∀ y0 y1 y2, LeO (impl_wide.l0 k y0 y1 y2) (impl_wide.l0 (k + 1) y0 y1 y2))
  | 0 => fun _ _ _ r h => by simp [impl_wide.l0] at h
  | k + 1 => by
    have ih0 := impl_wide.mono_l k
    · intro y0 y1 y2
      unfold impl_wide.l0
      repeat' first
      | (with_reducible exact ih0 _ _ _)
      | (with_reducible exact LeO.refl _)
      | (with_reducible exact LeO.none _)
      | (with_reducible refine LeO.ite ?_ ?_)
      | (with_reducible refine LeO.bind ?_ (fun _ => ?_))
      | exact ih0 _ _ _
      | exact LeO.none _
      | refine LeO.ite ?_ ?_
      | refine LeO.bind ?_ (fun _ => ?_)
theorem impl_wide.mono : ∀ a0 a1 k, LeO (impl_wide.f k a0 a1) (impl_wide.f (k + 1) a0 a1) := by
  intro a0 a1 k
  have ih0 := impl_wide.mono_l k
  unfold impl_wide.f
  repeat' first
      | (with_reducible exact ih0 _ _ _)
      | (with_reducible exact LeO.refl _)
      | (with_reducible exact LeO.none _)
      | (with_reducible refine LeO.ite ?_ ?_)
      | (with_reducible refine LeO.bind ?_ (fun _ => ?_))
      | exact ih0 _ _ _
      | exact LeO.none _
      | refine LeO.ite ?_ ?_
      | refine LeO.bind ?_ (fun _ => ?_)
set_option maxHeartbeats 8000000 in
set_option maxRecDepth 100000 in
theorem impl_wide.calls (k : Nat) (a0 : Int) (a1 : Int) (r : List Int) (w : World) (h : impl_wide.f k a0 a1 = some r) :
    Calls Try.prog 74 #[.int .i64 a0, .int .i64 a1] w fun e w' => ∃ v0_ : Value, e = .returned (v0_) ∧ Kd.R (Kd.int .u8) 5 w' w.heap.size (fun _ => True) v0_ r ∧ Below w.heap.size w w' := by
  have HB := Aside0.mk (Below.refl w.heap.size w)
  have H : (impl_wide.l0 k a0 (([] : List Int)) (wrap64 (a1 - 1))) = some r := h
  clear h
  obtain ⟨y204, hy204⟩ : ∃ y_ : List Int, y_ = (([] : List Int)) := ⟨_, rfl⟩
  replace H : (impl_wide.l0 k a0 y204 (wrap64 (a1 - 1))) = some r := by first | (rw [hy204]; with_reducible exact H) | (have H2_ := (Option.bind_some _ _).symm.trans H; rw [hy204]; with_reducible exact H2_) | (have H2_ := (Option.bind_some _ _).symm.trans H; with_reducible exact H2_) | with_reducible exact H | (rw [hy204]; exact H) | exact H
  have Ny204 := Aside0.mk hy204
  clear hy204
  have H' := Aside0.mk H
  clear H
  go_enter Try.func74, Try.ntmps74
  go_wp2_with (first | ((with_reducible refine gate_dst (N := 7) rfl ?_); refine Kd.R_lit (Kd.int .u8) _ 5 ?hg (N := 7) ?hd (xs := ([] : List Int)) (inner := []) (ok := fun _ => True) (okp := fun _ => True) ?hr ?hp (fun _ hk => hk) trivial (Below.refl _ _) (Nat.le_refl _) (by simp) ?_; (case hd => rfl); (case hg => rfl); (case hr => first | (go_simp; done) | (go_simp; rfl)); (case hp => exact (Reps.none _ _)); intro v205 w3 ho4 hb hg_ hnew_; clear hg_ hnew_; (first | rw [← Ny204.out] at ho4 | (simp only [Int.reduceToNat] at ho4; rw [← Ny204.out] at ho4)); have n0_ := Aside0.mk (Kd.R_lower ho4 (below_size (by repeat (first | (with_reducible first | exact HB.out | apply below_alloc | apply pw_below_drewN | apply below_drew1) | exact HB.out)))); have n1_ := Aside0.mk (below_step (by repeat (first | (with_reducible first | exact HB.out | apply below_alloc | apply pw_below_drewN | apply below_drew1) | exact HB.out)) hb); clear HB; have HO206 := n0_; have HB := n1_; clear n0_ n1_; clear hb ho4))
  go_loopg [5, 6] k (fun kq v5 v6 w' => ∃ (x5_1 : List Int) (x6_1 : Int), v6 = .int .i64 x6_1 ∧ Aside0 (impl_wide.l0 kq a0 x5_1 x6_1 = some r) ∧ Aside0 (kq ≤ k) ∧ Aside0 (Kd.R (Kd.int .u8) 5 w' w.heap.size (fun _ => True) v5 x5_1) ∧ Aside0 (Below w.heap.size w w'))
  case atStart => exact ⟨(y204), (wrap64 (a1 - 1)), (by first | rfl | (simp; done) | (simp [*]; done)), H', ⟨Nat.le_refl _⟩, ⟨by (with_reducible repeat (first | apply Kd.R_alloc | apply Kd.R_drewN | apply Kd.R_drew)); exact HO206.out⟩, ⟨by repeat (first | (with_reducible first | exact HB.out | apply below_alloc | apply pw_below_drewN | apply below_drew1) | exact HB.out)⟩⟩
  case round =>
    clear H'
    try clear p2
    obtain ⟨x5_1, x6_1, rfl, HA, HK1, HO_5, HB⟩ := hrel
    cases gk with
    | zero => exact absurd HA.out (by simp [impl_wide.l0])
    | succ k1 =>
      have H := HA.out
      clear HA
      simp only [impl_wide.l0] at H
      by_cases c5 : x6_1 ≥ 0
      · rw [if_pos c5] at H
        have c5b0 : decide (0 ≤ x6_1) = true := decide_eq_true c5
        clear c5
        obtain ⟨ji6, hji6⟩ : ∃ j_ : Int, (wrap64 (8 * x6_1)) = j_ := ⟨_, rfl⟩
        replace H : (if 0 ≤ (ji6) then (if x5_1.length < 140737488355328 then (impl_wide.l0 k1 a0 (x5_1 ++ [(shr .u64 (IntKind.u64.wrap (a0)) (ji6)) % 256]) (wrap64 (x6_1 - 1))) else (none)) else (none)) = some r := by first | (rw [hji6] at H; exact H) | (simp only [hji6] at H ⊢; exact H)
        have hji6w : (IntKind.i64.wrap (8 * x6_1)) = ji6 := (i64_w _).trans hji6
        by_cases c7 : 0 ≤ (ji6)
        · rw [if_pos c7] at H
          have c7b0 := eq_true c7
          have c7b1 : decide (0 ≤ (ji6)) = true := decide_eq_true c7
          clear c7
          obtain ⟨ji8, hji8⟩ : ∃ j_ : Int, (shr .u64 (IntKind.u64.wrap (a0)) (ji6)) = j_ := ⟨_, rfl⟩
          replace H : (if x5_1.length < 140737488355328 then (impl_wide.l0 k1 a0 (x5_1 ++ [(ji8) % 256]) (wrap64 (x6_1 - 1))) else (none)) = some r := by first | (rw [hji8] at H; exact H) | (simp only [hji8] at H ⊢; exact H)
          have hji8_ : ((IntKind.u64.wrap (a0)) / 2 ^ min (ji6).toNat 64) = ji8 := hji8
          have hji8z : (ji6) ≤ 64 → ((IntKind.u64.wrap (a0)) / 2 ^ (ji6).toNat) = ji8 := shr_small hji8
          by_cases c9 : x5_1.length < 140737488355328
          · rw [if_pos c9] at H
            have LMc9 := Aside0.mk c9
            clear c9
            obtain ⟨y207, hy207⟩ : ∃ y_ : List Int, y_ = (x5_1 ++ [(ji8) % 256]) := ⟨_, rfl⟩
            replace H : (impl_wide.l0 k1 a0 y207 (wrap64 (x6_1 - 1))) = some r := by first | (rw [hy207]; with_reducible exact H) | (have H2_ := (Option.bind_some _ _).symm.trans H; rw [hy207]; with_reducible exact H2_) | (have H2_ := (Option.bind_some _ _).symm.trans H; with_reducible exact H2_) | with_reducible exact H | (rw [hy207]; exact H) | exact H
            have Ny207 := Aside0.mk hy207
            clear hy207
            have H' := Aside0.mk H
            clear H
            go_wp2_with (first | ((with_reducible refine gate_builtin (b := .append) (xs := #[.tmp 14, .tmp 21]) rfl ?_); at_builtin; refine Kd.R_append (Kd.int .u8) (w0 := w) w.heap.size rfl (.tmp 14) (.tmp 21) 38 5 (.int .u8 0) 1 rfl Try.underlying38 info5 rfl (by decide) (by omega) u5 x5_1 ((ji8) % 256) [.int .u8 ((ji8) % 256)] (fun _ => True) (fun _ => False) rfl rfl ?aP (fun _ hk => hk.elim) ?aF ?aO ?aB ?aS ?aL ?_; (case aP => exact rfl); (case aB => exact (by repeat (first | (with_reducible first | exact HB.out | apply below_alloc | apply pw_below_drewN | apply below_drew1) | exact HB.out))); (case aF => exact (fun _ _ => trivial)); (case aO => exact (by (with_reducible repeat (first | apply Kd.R_alloc | apply Kd.R_drewN | apply Kd.R_drew)); exact HO_5.out)); (case aS => exact (below_size (by repeat (first | (with_reducible first | exact HB.out | apply below_alloc | apply pw_below_drewN | apply below_drew1) | exact HB.out)))); (case aL => have := LMc9.out; omega); intro v208 w10 ho hb hg hat; rw [← Ny207.out] at ho; have n0_ := Aside0.mk (hb); have n1_ := Aside0.mk (ho); clear HB; clear HO_5; have HB := n0_; have HO209 := n1_; clear n0_ n1_; clear ho hb hg hat))
            go_roundg k1
            case measure => have := HK1.out; omega
            case rel => exact ⟨(y207), (wrap64 (x6_1 - 1)), (by first | rfl | (simp; done) | (simp [*]; done)), H', ⟨by have := HK1.out; omega⟩, ⟨by (with_reducible repeat (first | apply Kd.R_alloc | apply Kd.R_drewN | apply Kd.R_drew)); exact HO209.out⟩, ⟨by repeat (first | (with_reducible first | exact HB.out | apply below_alloc | apply pw_below_drewN | apply below_drew1) | exact HB.out)⟩⟩
          · rw [if_neg c9] at H
            exact absurd H (by simp)
        · rw [if_neg c7] at H
          exact absurd H (by simp)
      · rw [if_neg c5] at H
        have c5b0 : decide (0 ≤ x6_1) = false := decide_eq_false c5
        clear c5
        obtain rfl := Option.some.inj H
        go_wp2
        go_ret
        exact ⟨_, by first | rfl | (simp [errW_none, errW_some] <;> rfl) | (simp [*, errW_none, errW_some] <;> rfl), by (with_reducible repeat (first | apply Kd.R_alloc | apply Kd.R_drewN | apply Kd.R_drew)); exact HO_5.out, by repeat (first | (with_reducible first | exact HB.out | apply below_alloc | apply pw_below_drewN | apply below_drew1) | exact HB.out)⟩

/-! ### impl_PutAddr: function 24 -/
def impl_PutAddr.f (k : Nat) (a0_0 : Bool) (a0_1 : Int) (a0_2 : Int) : Option (List Int) := (impl_AddrOk.f a0_0 a0_1 a0_2).bind fun t211 => (if t211 = true then (if a0_0 = true then ((impl_wide.f k a0_1 8).bind fun t215 => ((impl_wide.f k a0_2 8).bind fun t218 => ((slices_Concat_byte_byte.f k (([(([6] : List Int)), t215, t218] : List (List Int)))).bind fun t224 => (some t224)))) else ((some (([4] : List Int) : List Int)).bind fun y227 => ((impl_wide.f k a0_2 4).bind fun t230 => (if y227.length + t230.length < 140737488355328 then (some (y227 ++ t230)) else (none))))) else (some ([] : List Int)))
theorem impl_PutAddr.mono : ∀ a0 a1 a2 k, LeO (impl_PutAddr.f k a0 a1 a2) (impl_PutAddr.f (k + 1) a0 a1 a2) := by
  intro a0 a1 a2 k
  unfold impl_PutAddr.f
  repeat' first
      | (with_reducible exact impl_wide.mono _ _ _)
      | (with_reducible exact slices_Concat_byte_byte.mono _ _)
      | (with_reducible exact LeO.refl _)
      | (with_reducible exact LeO.none _)
      | (with_reducible refine LeO.ite ?_ ?_)
      | (with_reducible refine LeO.bind ?_ (fun _ => ?_))
      | exact impl_wide.mono _ _ _
      | exact slices_Concat_byte_byte.mono _ _
      | exact LeO.none _
      | refine LeO.ite ?_ ?_
      | refine LeO.bind ?_ (fun _ => ?_)
def impl_PutAddr.T4 : Bool × List (List Nat × List Nat) := (true, [([], []), ([], []), ([1], [1]), ([2], [2]), ([], []), ([4], [4]), ([5, 3], [5]), ([0, 3, 6], [0, 3, 6]), ([7, 6], [7]), ([8, 8, 0, 1, 2, 3, 4, 5, 6, 7, 8], [8])])
def impl_PutAddr.B4 : List Nat := [0, 0, 2, 6, 0, 16, 62, 127, 255, 511]
theorem impl_PutAddr.tab4 : rtab .any (opsOf Try.f24 4) = impl_PutAddr.T4 := by kernel_rfl
theorem impl_PutAddr.bits4 : waitsOk impl_PutAddr.T4.2 impl_PutAddr.B4 = true := by kernel_rfl
set_option maxHeartbeats 8000000 in
set_option maxRecDepth 100000 in
theorem impl_PutAddr.calls (k : Nat) (a0_0 : Bool) (a0_1 : Int) (a0_2 : Int) (r : List Int) (w : World) (h : impl_PutAddr.f k a0_0 a0_1 a0_2 = some r) :
    Calls Try.prog 24 #[.agg #[.bool a0_0, .int .i64 a0_1, .int .i64 a0_2]] w fun e w' => ∃ v0_ : Value, e = .returned (v0_) ∧ Kd.R (Kd.int .u8) 5 w' w.heap.size (fun _ => True) v0_ r ∧ Below w.heap.size w w' := by
  have hu26 := Try.underlying26
  have HB := Aside0.mk (Below.refl w.heap.size w)
  have H : ((impl_AddrOk.f a0_0 a0_1 a0_2).bind fun t211 => (if t211 = true then (if a0_0 = true then ((impl_wide.f k a0_1 8).bind fun t215 => ((impl_wide.f k a0_2 8).bind fun t218 => ((slices_Concat_byte_byte.f k (([(([6] : List Int)), t215, t218] : List (List Int)))).bind fun t224 => (some t224)))) else ((some (([4] : List Int) : List Int)).bind fun y227 => ((impl_wide.f k a0_2 4).bind fun t230 => (if y227.length + t230.length < 140737488355328 then (some (y227 ++ t230)) else (none))))) else (some ([] : List Int)))) = some r := h
  clear h
  replace H := Option.bind_eq_some_iff.mp H
  obtain ⟨t211, A20, H⟩ := H
  replace H : (if t211 = true then (if a0_0 = true then ((impl_wide.f k a0_1 8).bind fun t215 => ((impl_wide.f k a0_2 8).bind fun t218 => ((slices_Concat_byte_byte.f k (([(([6] : List Int)), t215, t218] : List (List Int)))).bind fun t224 => (some t224)))) else ((some (([4] : List Int) : List Int)).bind fun y227 => ((impl_wide.f k a0_2 4).bind fun t230 => (if y227.length + t230.length < 140737488355328 then (some (y227 ++ t230)) else (none))))) else (some ([] : List Int))) = some r := H
  have A2 := Aside0.mk A20
  clear A20
  by_cases c3 : t211 = true
  · subst c3
    have H1 : (if a0_0 = true then ((impl_wide.f k a0_1 8).bind fun t215 => ((impl_wide.f k a0_2 8).bind fun t218 => ((slices_Concat_byte_byte.f k (([(([6] : List Int)), t215, t218] : List (List Int)))).bind fun t224 => (some t224)))) else ((some (([4] : List Int) : List Int)).bind fun y227 => ((impl_wide.f k a0_2 4).bind fun t230 => (if y227.length + t230.length < 140737488355328 then (some (y227 ++ t230)) else (none))))) = some r := by rw [if_pos rfl] at H; exact H
    clear H
    have H := H1
    clear H1
    by_cases c4 : a0_0 = true
    · subst c4
      have H1 : ((impl_wide.f k a0_1 8).bind fun t215 => ((impl_wide.f k a0_2 8).bind fun t218 => ((slices_Concat_byte_byte.f k (([(([6] : List Int)), t215, t218] : List (List Int)))).bind fun t224 => (some t224)))) = some r := by rw [if_pos rfl] at H; exact H
      clear H
      have H := H1
      clear H1
      obtain ⟨y212, hy212⟩ : ∃ y_ : List Int, y_ = (([6] : List Int)) := ⟨_, rfl⟩
      replace H : ((impl_wide.f k a0_1 8).bind fun t215 => ((impl_wide.f k a0_2 8).bind fun t218 => ((slices_Concat_byte_byte.f k (([y212, t215, t218] : List (List Int)))).bind fun t224 => (some t224)))) = some r := by first | (rw [hy212]; with_reducible exact H) | (have H2_ := (Option.bind_some _ _).symm.trans H; rw [hy212]; with_reducible exact H2_) | (have H2_ := (Option.bind_some _ _).symm.trans H; with_reducible exact H2_) | with_reducible exact H | (rw [hy212]; exact H) | exact H
      have Ny212 := Aside0.mk hy212
      clear hy212
      replace H := Option.bind_eq_some_iff.mp H
      obtain ⟨t215, A50, H⟩ := H
      replace H : ((impl_wide.f k a0_2 8).bind fun t218 => ((slices_Concat_byte_byte.f k (([y212, t215, t218] : List (List Int)))).bind fun t224 => (some t224))) = some r := H
      have A5 := Aside0.mk A50
      clear A50
      replace H := Option.bind_eq_some_iff.mp H
      obtain ⟨t218, A60, H⟩ := H
      replace H : ((slices_Concat_byte_byte.f k (([y212, t215, t218] : List (List Int)))).bind fun t224 => (some t224)) = some r := H
      have A6 := Aside0.mk A60
      clear A60
      obtain ⟨y221, hy221⟩ : ∃ y_ : List (List Int), y_ = (([y212, t215, t218] : List (List Int))) := ⟨_, rfl⟩
      replace H : ((slices_Concat_byte_byte.f k y221).bind fun t224 => (some t224)) = some r := by first | (rw [hy221]; with_reducible exact H) | (have H2_ := (Option.bind_some _ _).symm.trans H; rw [hy221]; with_reducible exact H2_) | (have H2_ := (Option.bind_some _ _).symm.trans H; with_reducible exact H2_) | with_reducible exact H | (rw [hy221]; exact H) | exact H
      have Ny221 := Aside0.mk hy221
      clear hy221
      replace H := Option.bind_eq_some_iff.mp H
      obtain ⟨t224, A70, H⟩ := H
      replace H : (some t224) = some r := H
      have A7 := Aside0.mk A70
      clear A70
      obtain rfl := Option.some.inj H
      go_enter Try.func24, Try.ntmps24
      try go_wp2_with (first | ((with_reducible refine gate_dst (N := 1) rfl ?_); refine box_event ?hg (N := 1) ?hd (cs := #[.bool true, .int .i64 a0_1, .int .i64 a0_2]) (t := 26) ?hr ?_; (case hd => rfl); (case hg => rfl); (case hr => first | (go_simp; done) | (go_simp; rfl)); intro gb210 hg w8 hbox hb; have n0_ := Aside0.mk (below_step (by repeat (first | (with_reducible first | exact HB.out | apply below_alloc | apply pw_below_drewN | apply below_drew1) | exact HB.out)) hb); have n1_ := Aside0.mk (hbox); have n2_ := Aside0.mk ((by rw [hg]; exact (below_size (by repeat (first | (with_reducible first | exact HB.out | apply below_alloc | apply pw_below_drewN | apply below_drew1) | exact HB.out))) : w.heap.size ≤ gb210)); have n3_ := Aside0.mk ((by rw [hg]; exact (below_size (by repeat (first | (with_reducible first | exact HB.out | apply below_alloc | apply pw_below_drewN | apply below_drew1) | exact HB.out))) : w.heap.size ≤ gb210)); clear HB; have HB := n0_; have BK210 := n1_; have GW210 := n2_; have GE210 := n3_; clear n0_ n1_ n2_ n3_; clear hb hbox hg; have hcz9_0 : w8.cell? ⟨gb210, 0, none⟩ = some (.bool true) := (blk_cell BK210.out 0).trans rfl; have hcz9_1 : w8.cell? ⟨gb210, 1, none⟩ = some (.int .i64 a0_1) := (blk_cell BK210.out 1).trans rfl; have hcz9_2 : w8.cell? ⟨gb210, 2, none⟩ = some (.int .i64 a0_2) := (blk_cell BK210.out 2).trans rfl; have hfz9_0 := blk_frozen BK210.out 0; have hfz9_1 := blk_frozen BK210.out 1; have hfz9_2 := blk_frozen BK210.out 2) | ((with_reducible refine gate_callee (f := 72) rfl ?_); refine goesL_ (some 5) rfl rfl Try.func72 (by kernel_rfl) rfl #[.agg #[.bool true, .int .i64 a0_1, .int .i64 a0_2]] rfl (by (try simp only [List.map_toArray, List.map_cons, List.map_nil]); first | done | rfl | (simp only [List.length_drop, List.length_take]; rfl)) ?_; (with_reducible refine (impl_AddrOk.calls true a0_1 a0_2 true _ A2.out).mono ?_); rintro e w10 ⟨rfl, hb⟩; refine ⟨_, rfl, ?_⟩; have n0_ := Aside0.mk (blk_below (g := gb210) (o := .cells #[.bool true, .int .i64 a0_1, .int .i64 a0_2] 26 (0, 0)) (by (with_reducible repeat (first | refine blk_drewN ?_ _ | refine blk_drew ?_ | refine blk_alloc ?_ _)); exact BK210.out) hb); have n1_ := Aside0.mk (below_step (by repeat (first | (with_reducible first | exact HB.out | apply below_alloc | apply pw_below_drewN | apply below_drew1 | refine below_set ?_ GE210.out) | exact HB.out)) hb); clear BK210; clear HB; have BK210 := n0_; have HB := n1_; clear n0_ n1_; (try clear hb); (try clear hb2); (try clear hk); (try clear hi); have hcz11_0 : w10.cell? ⟨gb210, 0, none⟩ = some (.bool true) := (blk_cell BK210.out 0).trans rfl; have hcz11_1 : w10.cell? ⟨gb210, 1, none⟩ = some (.int .i64 a0_1) := (blk_cell BK210.out 1).trans rfl; have hcz11_2 : w10.cell? ⟨gb210, 2, none⟩ = some (.int .i64 a0_2) := (blk_cell BK210.out 2).trans rfl; have hfz11_0 := blk_frozen BK210.out 0; have hfz11_1 := blk_frozen BK210.out 1; have hfz11_2 := blk_frozen BK210.out 2))
      have n0_ := Aside0.mk (blk_drew BK210.out)
      have n1_ := Aside0.mk (below_drew1 HB.out)
      clear BK210
      clear HB
      have BK210 := n0_
      have HB := n1_
      clear n0_ n1_
      refine start_ (n := 10) (S := fun w' => True) (ds := []) #[false, false, false, false, false, false, false, false, false, false] (by kernel_rfl) rfl rfl trivial (fun hHeld => ?_); refine with_tabW impl_PutAddr.tab4 impl_PutAddr.bits4 (fun HT_ HW_ => ?_)
      generalize w10.drew = w12 at BK210 HB hHeld ⊢
      refine pure_ (i := 1) (N := some 11) (v := ?_) (a' := ?_) #[false, true, false, false, false, false, false, false, false, false] rfl rfl (any_of HT_.out (by kernel_rfl)) (fun _ _ _ h => h) (Or.inl ⟨by rfl, ?_⟩) ?_ ?_
      rotate_left
      · intro w'
        go_simp
        with_reducible rfl
      rotate_left
      · simp only [Act.put, List.setIfInBounds_toArray, List.set_cons_zero, List.set_cons_succ, i64_w, i32_w]
        rfl
      refine pure_ (i := 4) (N := some 14) (v := ?_) (a' := ?_) #[false, true, false, false, true, false, false, false, false, false] rfl rfl (any_of HT_.out (by kernel_rfl)) (fun _ _ _ h => h) (Or.inl ⟨by rfl, ?_⟩) ?_ ?_
      rotate_left
      · intro w'
        go_simp
        with_reducible rfl
      rotate_left
      · simp only [Act.put, List.setIfInBounds_toArray, List.set_cons_zero, List.set_cons_succ, i64_w, i32_w]
        rfl
      refine inv_at [0, 2, 3, 5, 6, 7, 8, 9] (fun a0_ b a w' => ∃ (v213 : Value) (v216 : Value) (v219 : Value) (v222 : Value) (v225 : Value) (m9_ : Value), a = putSel a0_ b [(0, 10, v213), (2, 12, .int .i64 a0_1), (3, 13, v216), (5, 15, .int .i64 a0_2), (6, 16, v219), (7, 17, v222), (8, 18, v225), (9, 2, m9_)] ∧ (w'.heap[gb210]? = some (.cells #[.bool true, .int .i64 a0_1, .int .i64 a0_2] 26 (0, 0))) ∧ (Below w.heap.size w w') ∧ (b 0 = true → b 7 = false → Kd.R (Kd.int .u8) 5 w' w.heap.size (fun _ => True) v213 y212) ∧ (b 3 = true → b 7 = false → Kd.R (Kd.int .u8) 5 w' w.heap.size (fun _ => True) v216 t215) ∧ (b 6 = true → b 7 = false → Kd.R (Kd.int .u8) 5 w' w.heap.size (fun _ => True) v219 t218) ∧ (b 7 = true → Kd.N (Kd.slice 5 (Kd.int .u8)) 38 w' w.heap.size (fun k_ => k_ ≠ gb210) v222 y221) ∧ (b 8 = true → Kd.R (Kd.int .u8) 5 w' w.heap.size (fun _ => True) v225 t224) ∧ (b 9 = true → (m9_ : Value) = v225)) HT_.out HW_.out (by kernel_rfl) (by kernel_rfl) ?_ ?_ ?_
      · exact ⟨.bool false, .bool false, .bool false, .bool false, .bool false, .bool false, by simp only [putSel, Bool.false_eq_true, if_false], BK210.out, HB.out, fun h_ => absurd h_ (by decide), fun h_ => absurd h_ (by decide), fun h_ => absurd h_ (by decide), fun h_ => absurd h_ (by decide), fun h_ => absurd h_ (by decide), fun h_ => absurd h_ (by decide)⟩
      · skip
        clear BK210 HB
        refine steps_cons ?_ ?_
        · rintro b a w' ⟨v213, v216, v219, v222, v225, m9_, ha, Q_BK210, Q_HB, Q_HO214, Q_HO217, Q_HO220, Q_HO223, Q_HO226, Q_X9_⟩ hb_ hon hoff
          refine ⟨_, rfl, fun K hK => ?_⟩
          replace ha := Aside0.mk ha
          have BK210 := Aside0.mk Q_BK210
          have HB := Aside0.mk Q_HB
          refine Kd.R_lit_step (Kd.int .u8) _ 5 ?hg (N := 10) ?hd (xs := ([6] : List Int)) (inner := [.int .u8 6]) (ok := fun _ => True) (okp := fun _ => True) ?hr ?hp (fun _ hk => hk) trivial (Below.refl _ _) (Nat.le_refl _) (by simp) ?_; (case hd => rfl); (case hg => rfl); (case hr => first | (go_simp; done) | (go_simp; rfl)); (case hp => exact (Reps.one (show Kd.M (Kd.int .u8) _ _ _ 6 [.int .u8 6] from rfl) (Reps.none _ _)))
          intro v213 w13 ho14 hb hg_ hnew_
          clear hg_ hnew_
          (first | rw [← Ny212.out] at ho14 | (simp only [Int.reduceToNat] at ho14; rw [← Ny212.out] at ho14))
          have n0_ := Aside0.mk (Kd.R_lower ho14 (below_size (by repeat (first | (with_reducible first | exact HB.out | apply below_alloc | apply pw_below_drewN | apply below_drew1 | refine below_set ?_ GE210.out) | exact HB.out))))
          have n1_ := Aside0.mk (blk_below (g := gb210) (o := .cells #[.bool true, .int .i64 a0_1, .int .i64 a0_2] 26 (0, 0)) (by (with_reducible repeat (first | refine blk_drewN ?_ _ | refine blk_drew ?_ | refine blk_alloc ?_ _)); exact BK210.out) hb)
          have n2_ := Aside0.mk (below_step (by repeat (first | (with_reducible first | exact HB.out | apply below_alloc | apply pw_below_drewN | apply below_drew1 | refine below_set ?_ GE210.out) | exact HB.out)) hb)
          have z_HO217 := fun (h0_ : b 3 = true) (h1_ : b 7 = false) => (show Kd.R (Kd.int .u8) 5 w13 w.heap.size (fun _ => True) v216 t215 from by first | exact (Kd.R_elder' (by (with_reducible repeat (first | apply Kd.R_alloc | apply Kd.R_drewN | apply Kd.R_drew)); exact (Q_HO217 h0_ h1_)) (Kd.R_base ho14) hb) | exact Kd.R_mono (Kd.R_elder' (by (with_reducible repeat (first | apply Kd.R_alloc | apply Kd.R_drewN | apply Kd.R_drew)); exact (Q_HO217 h0_ h1_)) (Kd.R_base ho14) hb) (fun _ h_ => by first | trivial | exact h_ | exact h_.1))
          have z_HO220 := fun (h0_ : b 6 = true) (h1_ : b 7 = false) => (show Kd.R (Kd.int .u8) 5 w13 w.heap.size (fun _ => True) v219 t218 from by first | exact (Kd.R_elder' (by (with_reducible repeat (first | apply Kd.R_alloc | apply Kd.R_drewN | apply Kd.R_drew)); exact (Q_HO220 h0_ h1_)) (Kd.R_base ho14) hb) | exact Kd.R_mono (Kd.R_elder' (by (with_reducible repeat (first | apply Kd.R_alloc | apply Kd.R_drewN | apply Kd.R_drew)); exact (Q_HO220 h0_ h1_)) (Kd.R_base ho14) hb) (fun _ h_ => by first | trivial | exact h_ | exact h_.1))
          clear BK210
          clear HB
          have HO214 := n0_
          have BK210 := n1_
          have HB := n2_
          clear n0_ n1_ n2_
          clear hb ho14
          refine hK.out _ _ ⟨v213, v216, v219, v222, v225, m9_, (by rw [ha.out]; exact putSel_upk 0 hb_ rfl rfl rfl), (by (with_reducible repeat (first | refine blk_drewN ?_ _ | refine blk_drew ?_ | refine blk_alloc ?_ _)); exact BK210.out), (by repeat (first | (with_reducible first | exact HB.out | apply below_alloc | apply pw_below_drewN | apply below_drew1 | refine below_set ?_ GE210.out) | exact HB.out)), fun _ _ => (by (with_reducible repeat (first | apply Kd.R_alloc | apply Kd.R_drewN | apply Kd.R_drew)); exact HO214.out), z_HO217, z_HO220, fun h0_ => absurd ((hoff 7 (by kernel_rfl)).symm.trans h0_) (by decide), fun h0_ => absurd ((hoff 8 (by kernel_rfl)).symm.trans h0_) (by decide), fun h0_ => absurd ((hoff 9 (by kernel_rfl)).symm.trans h0_) (by decide)⟩
        refine steps_cons ?_ ?_
        · rintro b a w' ⟨v213, v216, v219, v222, v225, m9_, ha, Q_BK210, Q_HB, Q_HO214, Q_HO217, Q_HO220, Q_HO223, Q_HO226, Q_X9_⟩ hb_ hon hoff
          refine ⟨_, rfl, fun K hK => ?_⟩
          have e11 : a.tmps[11]? = some (.pointer (some ⟨gb210, 1, none⟩)) := by rw [ha]; exact (putSel_off rfl).trans rfl
          replace ha := Aside0.mk ha
          have BK210 := Aside0.mk Q_BK210
          have HB := Aside0.mk Q_HB
          have hc0_ : w'.cell? ⟨gb210, 0, none⟩ = some (.bool true) := (blk_cell BK210.out 0).trans rfl
          have hc1_ : w'.cell? ⟨gb210, 1, none⟩ = some (.int .i64 a0_1) := (blk_cell BK210.out 1).trans rfl
          have hc2_ : w'.cell? ⟨gb210, 2, none⟩ = some (.int .i64 a0_2) := (blk_cell BK210.out 2).trans rfl
          refine value_ (w1 := w') (v := .int .i64 a0_1) (by rfl) rfl ?_ ?_
          · go_simp
            (try simp only [i64_w])
            try rfl
          refine hK.out _ _ ⟨v213, v216, v219, v222, v225, m9_, (by rw [ha.out]; exact putSel_upk 1 hb_ rfl rfl rfl), Q_BK210, Q_HB, Q_HO214, fun h0_ _ => absurd ((hoff 3 (by kernel_rfl)).symm.trans h0_) (by decide), fun h0_ _ => absurd ((hoff 6 (by kernel_rfl)).symm.trans h0_) (by decide), fun h0_ => absurd ((hoff 7 (by kernel_rfl)).symm.trans h0_) (by decide), fun h0_ => absurd ((hoff 8 (by kernel_rfl)).symm.trans h0_) (by decide), fun h0_ => absurd ((hoff 9 (by kernel_rfl)).symm.trans h0_) (by decide)⟩
        refine steps_cons ?_ ?_
        · rintro b a w' ⟨v213, v216, v219, v222, v225, m9_, ha, Q_BK210, Q_HB, Q_HO214, Q_HO217, Q_HO220, Q_HO223, Q_HO226, Q_X9_⟩ hb_ hon hoff
          refine ⟨_, rfl, fun K hK => ?_⟩
          have e12 : a.tmps[12]? = some (.int .i64 a0_1) := by rw [ha]; exact putSel_on (e := (2, 12, .int .i64 a0_1)) 1 rfl rfl (hon 2 (by kernel_rfl)) rfl
          replace ha := Aside0.mk ha
          have BK210 := Aside0.mk Q_BK210
          have HB := Aside0.mk Q_HB
          refine goes_ Try.func74 (by kernel_rfl) rfl #[.int .i64 a0_1, .int .i64 8] (by rfl) rfl rfl (by first | (simp only [List.map_toArray, List.map_cons, List.map_nil, Act.eval, Array.getD_eq_getD_getElem?, Option.getD_some, e12]; done) | (simp only [List.map_toArray, List.map_cons, List.map_nil, Act.eval, Array.getD_eq_getD_getElem?, Option.getD_some, e12]; rfl)) ?_
          with_reducible refine (impl_wide.calls k a0_1 8 t215 _ A5.out).mono ?_
          rintro e w13 ⟨v216, rfl, ho0, hb⟩
          refine ⟨_, rfl, ?_⟩
          have n0_ := Aside0.mk (Kd.R_lower ho0 (below_size (by repeat (first | (with_reducible first | exact HB.out | apply below_alloc | apply pw_below_drewN | apply below_drew1 | refine below_set ?_ GE210.out) | exact HB.out))))
          have n1_ := Aside0.mk (blk_below (g := gb210) (o := .cells #[.bool true, .int .i64 a0_1, .int .i64 a0_2] 26 (0, 0)) (by (with_reducible repeat (first | refine blk_drewN ?_ _ | refine blk_drew ?_ | refine blk_alloc ?_ _)); exact BK210.out) hb)
          have n2_ := Aside0.mk (below_step (by repeat (first | (with_reducible first | exact HB.out | apply below_alloc | apply pw_below_drewN | apply below_drew1 | refine below_set ?_ GE210.out) | exact HB.out)) hb)
          have z_HO214 := fun (h0_ : b 0 = true) (h1_ : b 7 = false) => (show Kd.R (Kd.int .u8) 5 w13 w.heap.size (fun _ => True) v213 y212 from by first | exact (Kd.R_elder' (by (with_reducible repeat (first | apply Kd.R_alloc | apply Kd.R_drewN | apply Kd.R_drew)); exact (Q_HO214 h0_ h1_)) (Kd.R_base ho0) hb) | exact Kd.R_mono (Kd.R_elder' (by (with_reducible repeat (first | apply Kd.R_alloc | apply Kd.R_drewN | apply Kd.R_drew)); exact (Q_HO214 h0_ h1_)) (Kd.R_base ho0) hb) (fun _ h_ => by first | trivial | exact h_ | exact h_.1))
          clear BK210
          clear HB
          have HO217 := n0_
          have BK210 := n1_
          have HB := n2_
          clear n0_ n1_ n2_
          (try clear hb)
          (try clear hb2)
          (try clear hk)
          (try clear hi)
          (try clear ho0)
          refine hK.out _ _ ⟨v213, v216, v219, v222, v225, m9_, (by rw [ha.out]; exact putSel_upk 2 hb_ rfl rfl rfl), (by (with_reducible repeat (first | refine blk_drewN ?_ _ | refine blk_drew ?_ | refine blk_alloc ?_ _)); exact BK210.out), (by repeat (first | (with_reducible first | exact HB.out | apply below_alloc | apply pw_below_drewN | apply below_drew1 | refine below_set ?_ GE210.out) | exact HB.out)), z_HO214, fun _ _ => (by (with_reducible repeat (first | apply Kd.R_alloc | apply Kd.R_drewN | apply Kd.R_drew)); exact HO217.out), fun h0_ _ => absurd ((hoff 6 (by kernel_rfl)).symm.trans h0_) (by decide), fun h0_ => absurd ((hoff 7 (by kernel_rfl)).symm.trans h0_) (by decide), fun h0_ => absurd ((hoff 8 (by kernel_rfl)).symm.trans h0_) (by decide), fun h0_ => absurd ((hoff 9 (by kernel_rfl)).symm.trans h0_) (by decide)⟩
        refine steps_cons ?_ ?_
        · rintro b a w' ⟨v213, v216, v219, v222, v225, m9_, ha, Q_BK210, Q_HB, Q_HO214, Q_HO217, Q_HO220, Q_HO223, Q_HO226, Q_X9_⟩ hb_ hon hoff
          refine ⟨_, rfl, fun K hK => ?_⟩
          have e14 : a.tmps[14]? = some (.pointer (some ⟨gb210, 2, none⟩)) := by rw [ha]; exact (putSel_off rfl).trans rfl
          replace ha := Aside0.mk ha
          have BK210 := Aside0.mk Q_BK210
          have HB := Aside0.mk Q_HB
          have hc0_ : w'.cell? ⟨gb210, 0, none⟩ = some (.bool true) := (blk_cell BK210.out 0).trans rfl
          have hc1_ : w'.cell? ⟨gb210, 1, none⟩ = some (.int .i64 a0_1) := (blk_cell BK210.out 1).trans rfl
          have hc2_ : w'.cell? ⟨gb210, 2, none⟩ = some (.int .i64 a0_2) := (blk_cell BK210.out 2).trans rfl
          refine value_ (w1 := w') (v := .int .i64 a0_2) (by rfl) rfl ?_ ?_
          · go_simp
            (try simp only [i64_w])
            try rfl
          refine hK.out _ _ ⟨v213, v216, v219, v222, v225, m9_, (by rw [ha.out]; exact putSel_upk 3 hb_ rfl rfl rfl), Q_BK210, Q_HB, Q_HO214, Q_HO217, fun h0_ _ => absurd ((hoff 6 (by kernel_rfl)).symm.trans h0_) (by decide), fun h0_ => absurd ((hoff 7 (by kernel_rfl)).symm.trans h0_) (by decide), fun h0_ => absurd ((hoff 8 (by kernel_rfl)).symm.trans h0_) (by decide), fun h0_ => absurd ((hoff 9 (by kernel_rfl)).symm.trans h0_) (by decide)⟩
        refine steps_cons ?_ ?_
        · rintro b a w' ⟨v213, v216, v219, v222, v225, m9_, ha, Q_BK210, Q_HB, Q_HO214, Q_HO217, Q_HO220, Q_HO223, Q_HO226, Q_X9_⟩ hb_ hon hoff
          refine ⟨_, rfl, fun K hK => ?_⟩
          have e15 : a.tmps[15]? = some (.int .i64 a0_2) := by rw [ha]; exact putSel_on (e := (5, 15, .int .i64 a0_2)) 3 rfl rfl (hon 5 (by kernel_rfl)) rfl
          replace ha := Aside0.mk ha
          have BK210 := Aside0.mk Q_BK210
          have HB := Aside0.mk Q_HB
          have HO217 := Aside0.mk (Q_HO217 (hon 3 (by kernel_rfl)) (hoff 7 (by kernel_rfl)))
          refine goes_ Try.func74 (by kernel_rfl) rfl #[.int .i64 a0_2, .int .i64 8] (by rfl) rfl rfl (by first | (simp only [List.map_toArray, List.map_cons, List.map_nil, Act.eval, Array.getD_eq_getD_getElem?, Option.getD_some, e15]; done) | (simp only [List.map_toArray, List.map_cons, List.map_nil, Act.eval, Array.getD_eq_getD_getElem?, Option.getD_some, e15]; rfl)) ?_
          with_reducible refine (impl_wide.calls k a0_2 8 t218 _ A6.out).mono ?_
          rintro e w15 ⟨v219, rfl, ho0, hb⟩
          refine ⟨_, rfl, ?_⟩
          have n0_ := Aside0.mk (Kd.R_elder' (by (with_reducible repeat (first | apply Kd.R_alloc | apply Kd.R_drewN | apply Kd.R_drew)); exact HO217.out) (Kd.R_base ho0) hb)
          have n1_ := Aside0.mk (Kd.R_lower (Kd.R_new' ho0 (Kd.R_lt (by (with_reducible repeat (first | apply Kd.R_alloc | apply Kd.R_drewN | apply Kd.R_drew)); exact HO217.out))) (below_size (by repeat (first | (with_reducible first | exact HB.out | apply below_alloc | apply pw_below_drewN | apply below_drew1 | refine below_set ?_ GE210.out) | exact HB.out))))
          have n2_ := Aside0.mk (blk_below (g := gb210) (o := .cells #[.bool true, .int .i64 a0_1, .int .i64 a0_2] 26 (0, 0)) (by (with_reducible repeat (first | refine blk_drewN ?_ _ | refine blk_drew ?_ | refine blk_alloc ?_ _)); exact BK210.out) hb)
          have n3_ := Aside0.mk (below_step (by repeat (first | (with_reducible first | exact HB.out | apply below_alloc | apply pw_below_drewN | apply below_drew1 | refine below_set ?_ GE210.out) | exact HB.out)) hb)
          have z_HO214 := fun (h0_ : b 0 = true) (h1_ : b 7 = false) => (show Kd.R (Kd.int .u8) 5 w15 w.heap.size (fun _ => True) v213 y212 from by first | exact (Kd.R_elder' (by (with_reducible repeat (first | apply Kd.R_alloc | apply Kd.R_drewN | apply Kd.R_drew)); exact (Q_HO214 h0_ h1_)) (Kd.R_base ho0) hb) | exact Kd.R_mono (Kd.R_elder' (by (with_reducible repeat (first | apply Kd.R_alloc | apply Kd.R_drewN | apply Kd.R_drew)); exact (Q_HO214 h0_ h1_)) (Kd.R_base ho0) hb) (fun _ h_ => by first | trivial | exact h_ | exact h_.1))
          clear HO217
          clear BK210
          clear HB
          have HO217 := n0_
          have HO220 := n1_
          have BK210 := n2_
          have HB := n3_
          clear n0_ n1_ n2_ n3_
          (try clear hb)
          (try clear hb2)
          (try clear hk)
          (try clear hi)
          (try clear ho0)
          refine hK.out _ _ ⟨v213, v216, v219, v222, v225, m9_, (by rw [ha.out]; exact putSel_upk 4 hb_ rfl rfl rfl), (by (with_reducible repeat (first | refine blk_drewN ?_ _ | refine blk_drew ?_ | refine blk_alloc ?_ _)); exact BK210.out), (by repeat (first | (with_reducible first | exact HB.out | apply below_alloc | apply pw_below_drewN | apply below_drew1 | refine below_set ?_ GE210.out) | exact HB.out)), z_HO214, fun _ _ => (by (with_reducible repeat (first | apply Kd.R_alloc | apply Kd.R_drewN | apply Kd.R_drew)); exact Kd.R_mono HO217.out (by first | exact fun _ hk => hk.2 | exact fun _ _ => trivial)), fun _ _ => (by (with_reducible repeat (first | apply Kd.R_alloc | apply Kd.R_drewN | apply Kd.R_drew)); exact Kd.R_mono HO220.out (by first | exact fun _ hk => hk.2 | exact fun _ _ => trivial)), fun h0_ => absurd ((hoff 7 (by kernel_rfl)).symm.trans h0_) (by decide), fun h0_ => absurd ((hoff 8 (by kernel_rfl)).symm.trans h0_) (by decide), fun h0_ => absurd ((hoff 9 (by kernel_rfl)).symm.trans h0_) (by decide)⟩
        refine steps_cons ?_ ?_
        · rintro b a w' ⟨v213, v216, v219, v222, v225, m9_, ha, Q_BK210, Q_HB, Q_HO214, Q_HO217, Q_HO220, Q_HO223, Q_HO226, Q_X9_⟩ hb_ hon hoff
          refine ⟨_, rfl, fun K hK => ?_⟩
          have e10 : a.tmps[10]? = some (v213) := by rw [ha]; exact putSel_on (e := (0, 10, v213)) 0 rfl rfl (hon 0 (by kernel_rfl)) rfl
          have e13 : a.tmps[13]? = some (v216) := by rw [ha]; exact putSel_on (e := (3, 13, v216)) 2 rfl rfl (hon 3 (by kernel_rfl)) rfl
          have e16 : a.tmps[16]? = some (v219) := by rw [ha]; exact putSel_on (e := (6, 16, v219)) 4 rfl rfl (hon 6 (by kernel_rfl)) rfl
          replace ha := Aside0.mk ha
          have BK210 := Aside0.mk Q_BK210
          have HB := Aside0.mk Q_HB
          have HO214 := Aside0.mk (Q_HO214 (hon 0 (by kernel_rfl)) hb_)
          have HO217 := Aside0.mk (Q_HO217 (hon 3 (by kernel_rfl)) hb_)
          have HO220 := Aside0.mk (Q_HO220 (hon 6 (by kernel_rfl)) hb_)
          obtain ⟨Ao18, co18, eo18⟩ := Kd.R_slice HO214.out
          (first | subst eo18 | (injection eo18 with f1_ f2_ f3_; have f4_ := f1_.symm; have f5_ := f3_.symm; clear f1_ f2_ f3_; subst f4_; subst f5_))
          obtain ⟨Ao19, co19, eo19⟩ := Kd.R_slice HO217.out
          (first | subst eo19 | (injection eo19 with f1_ f2_ f3_; have f4_ := f1_.symm; have f5_ := f3_.symm; clear f1_ f2_ f3_; subst f4_; subst f5_))
          obtain ⟨Ao20, co20, eo20⟩ := Kd.R_slice HO220.out
          (first | subst eo20 | (injection eo20 with f1_ f2_ f3_; have f4_ := f1_.symm; have f5_ := f3_.symm; clear f1_ f2_ f3_; subst f4_; subst f5_))
          refine Kd.N_lit_step (Kd.slice 5 (Kd.int .u8)) _ 38 ?hg (N' := 17) ?hd (xs := ([y212, t215, t218] : List (List Int))) (inner := [.slice Ao18 y212.length co18, .slice Ao19 t215.length co19, .slice Ao20 t218.length co20]) (ok := (fun k_ => k_ ≠ gb210)) (okp := (fun k_ => k_ ≠ gb210)) ?hr ?hp (fun _ hk => hk) ((show ∀ k_, w'.heap.size ≤ k_ → (fun k_ => k_ ≠ gb210) k_ from fun k_ hk => Kd.freshB (g := gb210) (o := .cells #[.bool true, .int .i64 a0_1, .int .i64 a0_2] 26 (0, 0)) (by (with_reducible repeat (first | refine blk_drewN ?_ _ | refine blk_drew ?_ | refine blk_alloc ?_ _)); exact BK210.out) k_ hk) _ (Nat.le_refl _)) (Below.refl _ _) (Nat.le_refl _) (by simp) ?_; (case hd => rfl); (case hg => rfl); (case hr => first | (go_simp; done) | (go_simp; rfl)); (case hp => exact (Reps.one (show Kd.FK (Kd.slice 5 (Kd.int .u8)) _ _ y212 [.slice Ao18 y212.length co18] from (Kd.FK_slice_mk (Kd.R_reads' (Kd.R_mono (ok' := (fun k_ => k_ ≠ gb210)) (Kd.R_types (HO214.out) BK210.out (by decide)) (fun k_ hk => hk.2))).2.1 (Kd.R_F (Kd.R_mono (ok' := (fun k_ => k_ ≠ gb210)) (Kd.R_types (HO214.out) BK210.out (by decide)) (fun k_ hk => hk.2))))) (Reps.one (show Kd.FK (Kd.slice 5 (Kd.int .u8)) _ _ t215 [.slice Ao19 t215.length co19] from (Kd.FK_slice_mk (Kd.R_reads' (Kd.R_mono (ok' := (fun k_ => k_ ≠ gb210)) (Kd.R_types (HO217.out) BK210.out (by decide)) (fun k_ hk => hk.2))).2.1 (Kd.R_F (Kd.R_mono (ok' := (fun k_ => k_ ≠ gb210)) (Kd.R_types (HO217.out) BK210.out (by decide)) (fun k_ hk => hk.2))))) (Reps.one (show Kd.FK (Kd.slice 5 (Kd.int .u8)) _ _ t218 [.slice Ao20 t218.length co20] from (Kd.FK_slice_mk (Kd.R_reads' (Kd.R_mono (ok' := (fun k_ => k_ ≠ gb210)) (Kd.R_types (HO220.out) BK210.out (by decide)) (fun k_ hk => hk.2))).2.1 (Kd.R_F (Kd.R_mono (ok' := (fun k_ => k_ ≠ gb210)) (Kd.R_types (HO220.out) BK210.out (by decide)) (fun k_ hk => hk.2))))) (Reps.none _ _)))))
          intro v222 w21 ho22 hb hg_ hnew_
          clear hg_ hnew_
          (first | rw [← Ny221.out] at ho22 | (simp only [Int.reduceToNat] at ho22; rw [← Ny221.out] at ho22))
          have n0_ := Aside0.mk (Kd.N_lower ho22 (below_size (by repeat (first | (with_reducible first | exact HB.out | apply below_alloc | apply pw_below_drewN | apply below_drew1 | refine below_set ?_ GE210.out) | exact HB.out))))
          have n1_ := Aside0.mk (blk_below (g := gb210) (o := .cells #[.bool true, .int .i64 a0_1, .int .i64 a0_2] 26 (0, 0)) (by (with_reducible repeat (first | refine blk_drewN ?_ _ | refine blk_drew ?_ | refine blk_alloc ?_ _)); exact BK210.out) hb)
          have n2_ := Aside0.mk (below_step (by repeat (first | (with_reducible first | exact HB.out | apply below_alloc | apply pw_below_drewN | apply below_drew1 | refine below_set ?_ GE210.out) | exact HB.out)) hb)
          clear BK210
          clear HB
          clear HO214
          clear HO217
          clear HO220
          have HO223 := n0_
          have BK210 := n1_
          have HB := n2_
          clear n0_ n1_ n2_
          clear hb ho22
          refine hK.out _ _ ⟨.slice Ao18 y212.length co18, .slice Ao19 t215.length co19, .slice Ao20 t218.length co20, v222, v225, m9_, (by rw [ha.out]; exact putSel_upk 5 hb_ rfl rfl rfl), (by (with_reducible repeat (first | refine blk_drewN ?_ _ | refine blk_drew ?_ | refine blk_alloc ?_ _)); exact BK210.out), (by repeat (first | (with_reducible first | exact HB.out | apply below_alloc | apply pw_below_drewN | apply below_drew1 | refine below_set ?_ GE210.out) | exact HB.out)), fun _ h1_ => absurd ((up_self b 7).symm.trans h1_) (by decide), fun _ h1_ => absurd ((up_self b 7).symm.trans h1_) (by decide), fun _ h1_ => absurd ((up_self b 7).symm.trans h1_) (by decide), fun _ => (by (with_reducible repeat (first | apply Kd.N_alloc | apply Kd.N_drewN | apply Kd.N_drew)); exact HO223.out), fun h0_ => absurd ((hoff 8 (by kernel_rfl)).symm.trans h0_) (by decide), fun h0_ => absurd ((hoff 9 (by kernel_rfl)).symm.trans h0_) (by decide)⟩
        refine steps_cons ?_ ?_
        · rintro b a w' ⟨v213, v216, v219, v222, v225, m9_, ha, Q_BK210, Q_HB, Q_HO214, Q_HO217, Q_HO220, Q_HO223, Q_HO226, Q_X9_⟩ hb_ hon hoff
          refine ⟨_, rfl, fun K hK => ?_⟩
          have e17 : a.tmps[17]? = some (v222) := by rw [ha]; exact putSel_on (e := (7, 17, v222)) 5 rfl rfl (hon 7 (by kernel_rfl)) rfl
          replace ha := Aside0.mk ha
          have BK210 := Aside0.mk Q_BK210
          have HB := Aside0.mk Q_HB
          have HO223 := Aside0.mk (Q_HO223 (hon 7 (by kernel_rfl)))
          obtain ⟨Ao23, co23, eo23⟩ := Kd.N_slice HO223.out
          (first | subst eo23 | (injection eo23 with f1_ f2_ f3_; have f4_ := f1_.symm; have f5_ := f3_.symm; clear f1_ f2_ f3_; subst f4_; subst f5_))
          refine goes_ Try.func73 (by kernel_rfl) rfl #[.slice Ao23 y221.length co23] (by rfl) rfl rfl (by first | (simp only [List.map_toArray, List.map_cons, List.map_nil, Act.eval, Array.getD_eq_getD_getElem?, Option.getD_some, e17]; done) | (simp only [List.map_toArray, List.map_cons, List.map_nil, Act.eval, Array.getD_eq_getD_getElem?, Option.getD_some, e17]; rfl)) ?_
          with_reducible refine (slices_Concat_byte_byte.calls k _ _ y221 t224 _ ?side1 ?side2 A7.out).mono ?_
          (case side1 => repeat (first | exact (Kd.N_reads' HO223.out).2.2 | (with_reducible refine Kd.C_alloc ?_ _) | (with_reducible refine Kd.C_drewN ?_ _) | (with_reducible refine Kd.C_drew ?_)))
          (case side2 => exact (Kd.N_reads' HO223.out).2.1)
          rintro e w24 ⟨v225, rfl, ho0, hb⟩
          refine ⟨_, rfl, ?_⟩
          have n0_ := Aside0.mk (Kd.N_elder' (by (with_reducible repeat (first | apply Kd.N_alloc | apply Kd.N_drewN | apply Kd.N_drew)); exact HO223.out) (Kd.R_base ho0) hb)
          have n1_ := Aside0.mk (Kd.R_lower ho0 (below_size (by repeat (first | (with_reducible first | exact HB.out | apply below_alloc | apply pw_below_drewN | apply below_drew1 | refine below_set ?_ GE210.out) | exact HB.out))))
          have n2_ := Aside0.mk (blk_below (g := gb210) (o := .cells #[.bool true, .int .i64 a0_1, .int .i64 a0_2] 26 (0, 0)) (by (with_reducible repeat (first | refine blk_drewN ?_ _ | refine blk_drew ?_ | refine blk_alloc ?_ _)); exact BK210.out) hb)
          have n3_ := Aside0.mk (below_step (by repeat (first | (with_reducible first | exact HB.out | apply below_alloc | apply pw_below_drewN | apply below_drew1 | refine below_set ?_ GE210.out) | exact HB.out)) hb)
          clear HO223
          clear BK210
          clear HB
          have HO223 := n0_
          have HO226 := n1_
          have BK210 := n2_
          have HB := n3_
          clear n0_ n1_ n2_ n3_
          (try clear hb)
          (try clear hb2)
          (try clear hk)
          (try clear hi)
          (try clear ho0)
          refine hK.out _ _ ⟨v213, v216, v219, .slice Ao23 y221.length co23, v225, m9_, (by rw [ha.out]; exact putSel_upk 6 hb_ rfl rfl rfl), (by (with_reducible repeat (first | refine blk_drewN ?_ _ | refine blk_drew ?_ | refine blk_alloc ?_ _)); exact BK210.out), (by repeat (first | (with_reducible first | exact HB.out | apply below_alloc | apply pw_below_drewN | apply below_drew1 | refine below_set ?_ GE210.out) | exact HB.out)), fun _ h1_ => absurd ((hon 7 (by kernel_rfl)).symm.trans h1_) (by decide), fun _ h1_ => absurd ((hon 7 (by kernel_rfl)).symm.trans h1_) (by decide), fun _ h1_ => absurd ((hon 7 (by kernel_rfl)).symm.trans h1_) (by decide), fun _ => (by (with_reducible repeat (first | apply Kd.N_alloc | apply Kd.N_drewN | apply Kd.N_drew)); exact Kd.N_mono HO223.out (by first | exact fun _ hk => ⟨hk.2, hk.1⟩ | exact fun _ hk => hk.2 | exact fun _ hk => hk.1)), fun _ => (by (with_reducible repeat (first | apply Kd.R_alloc | apply Kd.R_drewN | apply Kd.R_drew)); exact HO226.out), fun h0_ => absurd ((hoff 9 (by kernel_rfl)).symm.trans h0_) (by decide)⟩
        refine steps_cons ?_ ?_
        · rintro b a w' ⟨v213, v216, v219, v222, v225, m9_, ha, Q_BK210, Q_HB, Q_HO214, Q_HO217, Q_HO220, Q_HO223, Q_HO226, Q_X9_⟩ hb_ hon hoff
          refine ⟨_, rfl, fun K hK => ?_⟩
          have e18 : a.tmps[18]? = some (v225) := by rw [ha]; exact putSel_on (e := (8, 18, v225)) 6 rfl rfl (hon 8 (by kernel_rfl)) rfl
          replace ha := Aside0.mk ha
          have BK210 := Aside0.mk Q_BK210
          have HB := Aside0.mk Q_HB
          have HO223 := Aside0.mk (Q_HO223 (hon 7 (by kernel_rfl)))
          have HO226 := Aside0.mk (Q_HO226 (hon 8 (by kernel_rfl)))
          refine value_ (w1 := w') (v := v225) (by rfl) rfl ?_ ?_
          · go_simp
            (try simp only [i64_w])
            try rfl
          refine hK.out _ _ ⟨v213, v216, v219, v222, v225, (v225), (by rw [ha.out]; exact putSel_upk 7 hb_ rfl rfl rfl), Q_BK210, Q_HB, fun _ h1_ => absurd ((hon 7 (by kernel_rfl)).symm.trans h1_) (by decide), fun _ h1_ => absurd ((hon 7 (by kernel_rfl)).symm.trans h1_) (by decide), fun _ h1_ => absurd ((hon 7 (by kernel_rfl)).symm.trans h1_) (by decide), Q_HO223, Q_HO226, fun _ => rfl⟩
        exact steps_nil
      rintro b a w24 hall ⟨v213, v216, v219, v222, v225, m9_, ha, Q_BK210, Q_HB, Q_HO214, Q_HO217, Q_HO220, Q_HO223, Q_HO226, Q_X9_⟩
      clear BK210 HB
      have hb0_ := hall 0 (by kernel_rfl)
      have hb2_ := hall 2 (by kernel_rfl)
      have hb3_ := hall 3 (by kernel_rfl)
      have hb5_ := hall 5 (by kernel_rfl)
      have hb6_ := hall 6 (by kernel_rfl)
      have hb7_ := hall 7 (by kernel_rfl)
      have hb8_ := hall 8 (by kernel_rfl)
      have hb9_ := hall 9 (by kernel_rfl)
      subst ha
      obtain rfl := Q_X9_ hb9_
      simp only [putSel, hb0_, hb2_, hb3_, hb5_, hb6_, hb7_, hb8_, hb9_, if_true, Act.put, List.setIfInBounds_toArray, List.set_cons_zero, List.set_cons_succ]
      have BK210 := Aside0.mk Q_BK210
      clear Q_BK210
      have HB := Aside0.mk Q_HB
      clear Q_HB
      clear Q_HO214
      clear Q_HO217
      clear Q_HO220
      have HO223 := Aside0.mk (Q_HO223 hb7_)
      clear Q_HO223
      have HO226 := Aside0.mk (Q_HO226 hb8_)
      clear Q_HO226
      clear hall hb0_ hb2_ hb3_ hb5_ hb6_ hb7_ hb8_ hb9_
      try go_wp2
      go_ret
      exact ⟨_, by first | rfl | (simp [errW_none, errW_some] <;> rfl) | (simp [*, errW_none, errW_some] <;> rfl), by (with_reducible repeat (first | apply Kd.R_alloc | apply Kd.R_drewN | apply Kd.R_drew)); exact HO226.out, by repeat (first | (with_reducible first | exact HB.out | apply below_alloc | apply pw_below_drewN | apply below_drew1 | refine below_set ?_ GE210.out) | exact HB.out)⟩
    · replace c4 := Bool.eq_false_iff.mpr c4
      subst c4
      have H1 : ((some (([4] : List Int) : List Int)).bind fun y227 => ((impl_wide.f k a0_2 4).bind fun t230 => (if y227.length + t230.length < 140737488355328 then (some (y227 ++ t230)) else (none)))) = some r := by rw [if_neg (show ¬ (false = true) by decide)] at H; exact H
      clear H
      have H := H1
      clear H1
      obtain ⟨y227, hy227⟩ : ∃ y_ : List Int, y_ = (([4] : List Int)) := ⟨_, rfl⟩
      replace H : ((impl_wide.f k a0_2 4).bind fun t230 => (if y227.length + t230.length < 140737488355328 then (some (y227 ++ t230)) else (none))) = some r := by first | (rw [hy227]; with_reducible exact H) | (have H2_ := (Option.bind_some _ _).symm.trans H; rw [hy227]; with_reducible exact H2_) | (have H2_ := (Option.bind_some _ _).symm.trans H; with_reducible exact H2_) | with_reducible exact H | (rw [hy227]; exact H) | exact H
      have Ny227 := Aside0.mk hy227
      clear hy227
      replace H := Option.bind_eq_some_iff.mp H
      obtain ⟨t230, A250, H⟩ := H
      replace H : (if y227.length + t230.length < 140737488355328 then (some (y227 ++ t230)) else (none)) = some r := H
      have A25 := Aside0.mk A250
      clear A250
      by_cases c26 : y227.length + t230.length < 140737488355328
      · rw [if_pos c26] at H
        have LMc26 := Aside0.mk c26
        clear c26
        obtain ⟨y233, hy233⟩ : ∃ y_ : List Int, y_ = (y227 ++ t230) := ⟨_, rfl⟩
        replace H : (some y233) = some r := by first | (rw [hy233]; with_reducible exact H) | (have H2_ := (Option.bind_some _ _).symm.trans H; rw [hy233]; with_reducible exact H2_) | (have H2_ := (Option.bind_some _ _).symm.trans H; with_reducible exact H2_) | with_reducible exact H | (rw [hy233]; exact H) | exact H
        have Ny233 := Aside0.mk hy233
        clear hy233
        obtain rfl := Option.some.inj H
        go_enter Try.func24, Try.ntmps24
        go_wp2_with (first | ((with_reducible refine gate_dst (N := 1) rfl ?_); refine box_event ?hg (N := 1) ?hd (cs := #[.bool false, .int .i64 a0_1, .int .i64 a0_2]) (t := 26) ?hr ?_; (case hd => rfl); (case hg => rfl); (case hr => first | (go_simp; done) | (go_simp; rfl)); intro gb210 hg w27 hbox hb; have n0_ := Aside0.mk (below_step (by repeat (first | (with_reducible first | exact HB.out | apply below_alloc | apply pw_below_drewN | apply below_drew1) | exact HB.out)) hb); have n1_ := Aside0.mk (hbox); have n2_ := Aside0.mk ((by rw [hg]; exact (below_size (by repeat (first | (with_reducible first | exact HB.out | apply below_alloc | apply pw_below_drewN | apply below_drew1) | exact HB.out))) : w.heap.size ≤ gb210)); have n3_ := Aside0.mk ((by rw [hg]; exact (below_size (by repeat (first | (with_reducible first | exact HB.out | apply below_alloc | apply pw_below_drewN | apply below_drew1) | exact HB.out))) : w.heap.size ≤ gb210)); clear HB; have HB := n0_; have BK210 := n1_; have GW210 := n2_; have GE210 := n3_; clear n0_ n1_ n2_ n3_; clear hb hbox hg; have hcz28_0 : w27.cell? ⟨gb210, 0, none⟩ = some (.bool false) := (blk_cell BK210.out 0).trans rfl; have hcz28_1 : w27.cell? ⟨gb210, 1, none⟩ = some (.int .i64 a0_1) := (blk_cell BK210.out 1).trans rfl; have hcz28_2 : w27.cell? ⟨gb210, 2, none⟩ = some (.int .i64 a0_2) := (blk_cell BK210.out 2).trans rfl; have hfz28_0 := blk_frozen BK210.out 0; have hfz28_1 := blk_frozen BK210.out 1; have hfz28_2 := blk_frozen BK210.out 2) | ((with_reducible refine gate_callee (f := 72) rfl ?_); refine goesL_ (some 5) rfl rfl Try.func72 (by kernel_rfl) rfl #[.agg #[.bool false, .int .i64 a0_1, .int .i64 a0_2]] rfl (by (try simp only [List.map_toArray, List.map_cons, List.map_nil]); first | done | rfl | (simp only [List.length_drop, List.length_take]; rfl)) ?_; (with_reducible refine (impl_AddrOk.calls false a0_1 a0_2 true _ A2.out).mono ?_); rintro e w29 ⟨rfl, hb⟩; refine ⟨_, rfl, ?_⟩; have n0_ := Aside0.mk (blk_below (g := gb210) (o := .cells #[.bool false, .int .i64 a0_1, .int .i64 a0_2] 26 (0, 0)) (by (with_reducible repeat (first | refine blk_drewN ?_ _ | refine blk_drew ?_ | refine blk_alloc ?_ _)); exact BK210.out) hb); have n1_ := Aside0.mk (below_step (by repeat (first | (with_reducible first | exact HB.out | apply below_alloc | apply pw_below_drewN | apply below_drew1 | refine below_set ?_ GE210.out) | exact HB.out)) hb); clear BK210; clear HB; have BK210 := n0_; have HB := n1_; clear n0_ n1_; (try clear hb); (try clear hb2); (try clear hk); (try clear hi); have hcz30_0 : w29.cell? ⟨gb210, 0, none⟩ = some (.bool false) := (blk_cell BK210.out 0).trans rfl; have hcz30_1 : w29.cell? ⟨gb210, 1, none⟩ = some (.int .i64 a0_1) := (blk_cell BK210.out 1).trans rfl; have hcz30_2 : w29.cell? ⟨gb210, 2, none⟩ = some (.int .i64 a0_2) := (blk_cell BK210.out 2).trans rfl; have hfz30_0 := blk_frozen BK210.out 0; have hfz30_1 := blk_frozen BK210.out 1; have hfz30_2 := blk_frozen BK210.out 2) | ((with_reducible refine gate_dst (N := 19) rfl ?_); refine Kd.R_lit (Kd.int .u8) _ 5 ?hg (N := 19) ?hd (xs := ([4] : List Int)) (inner := [.int .u8 4]) (ok := fun _ => True) (okp := fun _ => True) ?hr ?hp (fun _ hk => hk) trivial (Below.refl _ _) (Nat.le_refl _) (by simp) ?_; (case hd => rfl); (case hg => rfl); (case hr => first | (go_simp; done) | (go_simp; rfl)); (case hp => exact (Reps.one (show Kd.M (Kd.int .u8) _ _ _ 4 [.int .u8 4] from rfl) (Reps.none _ _))); intro v228 w31 ho32 hb hg_ hnew_; clear hg_ hnew_; (first | rw [← Ny227.out] at ho32 | (simp only [Int.reduceToNat] at ho32; rw [← Ny227.out] at ho32)); have n0_ := Aside0.mk (Kd.R_lower ho32 (below_size (by repeat (first | (with_reducible first | exact HB.out | apply below_alloc | apply pw_below_drewN | apply below_drew1 | refine below_set ?_ GE210.out) | exact HB.out)))); have n1_ := Aside0.mk (blk_below (g := gb210) (o := .cells #[.bool false, .int .i64 a0_1, .int .i64 a0_2] 26 (0, 0)) (by (with_reducible repeat (first | refine blk_drewN ?_ _ | refine blk_drew ?_ | refine blk_alloc ?_ _)); exact BK210.out) hb); have n2_ := Aside0.mk (below_step (by repeat (first | (with_reducible first | exact HB.out | apply below_alloc | apply pw_below_drewN | apply below_drew1 | refine below_set ?_ GE210.out) | exact HB.out)) hb); clear BK210; clear HB; have HO229 := n0_; have BK210 := n1_; have HB := n2_; clear n0_ n1_ n2_; clear hb ho32; have hcz33_0 : w31.cell? ⟨gb210, 0, none⟩ = some (.bool false) := (blk_cell BK210.out 0).trans rfl; have hcz33_1 : w31.cell? ⟨gb210, 1, none⟩ = some (.int .i64 a0_1) := (blk_cell BK210.out 1).trans rfl; have hcz33_2 : w31.cell? ⟨gb210, 2, none⟩ = some (.int .i64 a0_2) := (blk_cell BK210.out 2).trans rfl; have hfz33_0 := blk_frozen BK210.out 0; have hfz33_1 := blk_frozen BK210.out 1; have hfz33_2 := blk_frozen BK210.out 2) | ((with_reducible refine gate_callee (f := 74) rfl ?_); refine goesL_ (some 22) rfl rfl Try.func74 (by kernel_rfl) rfl #[.int .i64 a0_2, .int .i64 4] rfl (by (try simp only [List.map_toArray, List.map_cons, List.map_nil]); first | done | rfl | (simp only [List.length_drop, List.length_take]; rfl)) ?_; (with_reducible refine (impl_wide.calls k a0_2 4 t230 _ A25.out).mono ?_); rintro e w34 ⟨v231, rfl, ho0, hb⟩; refine ⟨_, rfl, ?_⟩; have n0_ := Aside0.mk (Kd.R_elder' (by (with_reducible repeat (first | apply Kd.R_alloc | apply Kd.R_drewN | apply Kd.R_drew)); exact HO229.out) (Kd.R_base ho0) hb); have n1_ := Aside0.mk (Kd.R_lower (Kd.R_new' ho0 (Kd.R_lt (by (with_reducible repeat (first | apply Kd.R_alloc | apply Kd.R_drewN | apply Kd.R_drew)); exact HO229.out))) (below_size (by repeat (first | (with_reducible first | exact HB.out | apply below_alloc | apply pw_below_drewN | apply below_drew1 | refine below_set ?_ GE210.out) | exact HB.out)))); have n2_ := Aside0.mk (blk_below (g := gb210) (o := .cells #[.bool false, .int .i64 a0_1, .int .i64 a0_2] 26 (0, 0)) (by (with_reducible repeat (first | refine blk_drewN ?_ _ | refine blk_drew ?_ | refine blk_alloc ?_ _)); exact BK210.out) hb); have n3_ := Aside0.mk (below_step (by repeat (first | (with_reducible first | exact HB.out | apply below_alloc | apply pw_below_drewN | apply below_drew1 | refine below_set ?_ GE210.out) | exact HB.out)) hb); clear HO229; clear BK210; clear HB; have HO229 := n0_; have HO232 := n1_; have BK210 := n2_; have HB := n3_; clear n0_ n1_ n2_ n3_; (try clear hb); (try clear hb2); (try clear hk); (try clear hi); (try clear ho0); obtain ⟨Ao36, co36, eo36⟩ := Kd.R_slice HO232.out; subst eo36) | ((with_reducible refine gate_builtin (b := .append) (xs := #[.tmp 19, .tmp 22]) rfl ?_); at_builtin; refine Kd.R_append_rows (Kd.int .u8) (w0 := w) w.heap.size rfl (.tmp 19) (.tmp 22) 38 5 (.int .u8 0) 1 rfl Try.underlying38 info5 rfl (by decide) (by omega) v228 y227 t230 _ _ _ (fun k_ => some k_ ≠ (.slice Ao36 t230.length co36 : Value).ownBlock) (fun _ => False) rfl rfl ?aO ?aR (fun _ _ h => h) (fun _ h => h.elim) ?aF ?aB ?aS ?aL ?_; (case aR => repeat (first | exact (Kd.R_reads' HO232.out).2.2 | (with_reducible refine Kd.C_alloc ?_ _) | (with_reducible refine Kd.C_drewN ?_ _) | (with_reducible refine Kd.C_drew ?_))); (case aB => exact (by repeat (first | (with_reducible first | exact HB.out | apply below_alloc | apply pw_below_drewN | apply below_drew1 | refine below_set ?_ GE210.out) | exact HB.out))); (case aF => exact (fun k_ hk => Kd.fresh' (Kd.R_lt (by (with_reducible repeat (first | apply Kd.R_alloc | apply Kd.R_drewN | apply Kd.R_drew)); exact HO232.out)) k_ hk)); (case aO => exact (by (with_reducible repeat (first | apply Kd.R_alloc | apply Kd.R_drewN | apply Kd.R_drew)); exact Kd.R_mono HO229.out (by first | exact fun _ hk => hk.2 | exact fun _ _ => trivial))); (case aS => exact (below_size (by repeat (first | (with_reducible first | exact HB.out | apply below_alloc | apply pw_below_drewN | apply below_drew1 | refine below_set ?_ GE210.out) | exact HB.out)))); (case aL => have := LMc26.out; omega); intro v234 w35 ho hb hg hat; rw [← Ny233.out] at ho; have n0_ := Aside0.mk (blk_grown (g := gb210) (o := .cells #[.bool false, .int .i64 a0_1, .int .i64 a0_2] 26 (0, 0)) (by (with_reducible repeat (first | refine blk_drewN ?_ _ | refine blk_drew ?_ | refine blk_alloc ?_ _)); exact BK210.out) hg (Kd.R_ne HO229.out BK210.out (by decide))); have n1_ := Aside0.mk (Kd.R_after (ok := (fun _ => True)) (by (with_reducible repeat (first | apply Kd.R_alloc | apply Kd.R_drewN | apply Kd.R_drew)); exact HO232.out) hg hat); have n2_ := Aside0.mk (hb); have n3_ := Aside0.mk (ho); clear BK210; clear HO232; clear HB; clear HO229; have BK210 := n0_; have HO232 := n1_; have HB := n2_; have HO235 := n3_; clear n0_ n1_ n2_ n3_; clear ho hb hg hat))
        go_ret
        exact ⟨_, by first | rfl | (simp [errW_none, errW_some] <;> rfl) | (simp [*, errW_none, errW_some] <;> rfl), by (with_reducible repeat (first | apply Kd.R_alloc | apply Kd.R_drewN | apply Kd.R_drew)); exact Kd.R_mono HO235.out (fun _ hk => trivial), by repeat (first | (with_reducible first | exact HB.out | apply below_alloc | apply pw_below_drewN | apply below_drew1 | refine below_set ?_ GE210.out) | exact HB.out)⟩
      · rw [if_neg c26] at H
        exact absurd H (by simp)
  · replace c3 := Bool.eq_false_iff.mpr c3
    subst c3
    have H1 : (some ([] : List Int)) = some r := by rw [if_neg (show ¬ (false = true) by decide)] at H; exact H
    clear H
    have H := H1
    clear H1
    obtain rfl := Option.some.inj H
    go_enter Try.func24, Try.ntmps24
    go_wp2_with (first | ((with_reducible refine gate_dst (N := 1) rfl ?_); refine box_event ?hg (N := 1) ?hd (cs := #[.bool a0_0, .int .i64 a0_1, .int .i64 a0_2]) (t := 26) ?hr ?_; (case hd => rfl); (case hg => rfl); (case hr => first | (go_simp; done) | (go_simp; rfl)); intro gb210 hg w37 hbox hb; have n0_ := Aside0.mk (below_step (by repeat (first | (with_reducible first | exact HB.out | apply below_alloc | apply pw_below_drewN | apply below_drew1) | exact HB.out)) hb); have n1_ := Aside0.mk (hbox); have n2_ := Aside0.mk ((by rw [hg]; exact (below_size (by repeat (first | (with_reducible first | exact HB.out | apply below_alloc | apply pw_below_drewN | apply below_drew1) | exact HB.out))) : w.heap.size ≤ gb210)); have n3_ := Aside0.mk ((by rw [hg]; exact (below_size (by repeat (first | (with_reducible first | exact HB.out | apply below_alloc | apply pw_below_drewN | apply below_drew1) | exact HB.out))) : w.heap.size ≤ gb210)); clear HB; have HB := n0_; have BK210 := n1_; have GW210 := n2_; have GE210 := n3_; clear n0_ n1_ n2_ n3_; clear hb hbox hg; have hcz38_0 : w37.cell? ⟨gb210, 0, none⟩ = some (.bool a0_0) := (blk_cell BK210.out 0).trans rfl; have hcz38_1 : w37.cell? ⟨gb210, 1, none⟩ = some (.int .i64 a0_1) := (blk_cell BK210.out 1).trans rfl; have hcz38_2 : w37.cell? ⟨gb210, 2, none⟩ = some (.int .i64 a0_2) := (blk_cell BK210.out 2).trans rfl; have hfz38_0 := blk_frozen BK210.out 0; have hfz38_1 := blk_frozen BK210.out 1; have hfz38_2 := blk_frozen BK210.out 2) | ((with_reducible refine gate_callee (f := 72) rfl ?_); refine goesL_ (some 5) rfl rfl Try.func72 (by kernel_rfl) rfl #[.agg #[.bool a0_0, .int .i64 a0_1, .int .i64 a0_2]] rfl (by (try simp only [List.map_toArray, List.map_cons, List.map_nil]); first | done | rfl | (simp only [List.length_drop, List.length_take]; rfl)) ?_; (with_reducible refine (impl_AddrOk.calls a0_0 a0_1 a0_2 false _ A2.out).mono ?_); rintro e w39 ⟨rfl, hb⟩; refine ⟨_, rfl, ?_⟩; have n0_ := Aside0.mk (blk_below (g := gb210) (o := .cells #[.bool a0_0, .int .i64 a0_1, .int .i64 a0_2] 26 (0, 0)) (by (with_reducible repeat (first | refine blk_drewN ?_ _ | refine blk_drew ?_ | refine blk_alloc ?_ _)); exact BK210.out) hb); have n1_ := Aside0.mk (below_step (by repeat (first | (with_reducible first | exact HB.out | apply below_alloc | apply pw_below_drewN | apply below_drew1 | refine below_set ?_ GE210.out) | exact HB.out)) hb); clear BK210; clear HB; have BK210 := n0_; have HB := n1_; clear n0_ n1_; (try clear hb); (try clear hb2); (try clear hk); (try clear hi)))
    go_ret
    exact ⟨_, by first | rfl | (simp [errW_none, errW_some] <;> rfl) | (simp [*, errW_none, errW_some] <;> rfl), by first | exact Kd.R_nil _ _ _ _ _ | exact Kd.N_nil _ _ _ _ _ | exact Kd.V_nil _ _ _ _ _ | exact Kd.Q_nil _ _ _ _ _ | exact Kd.S_nil _ _ _ _ _, by repeat (first | (with_reducible first | exact HB.out | apply below_alloc | apply pw_below_drewN | apply below_drew1 | refine below_set ?_ GE210.out) | exact HB.out)⟩

/-! ### spec_l1In: function 75 -/
def spec_l1In.f (a0 : Int) (a1 : Int) (a2 : Int) : Option (Bool) := if a0 ≥ a1 then (some (decide (a0 ≤ a2))) else (some false)
set_option maxHeartbeats 8000000 in
set_option maxRecDepth 100000 in
theorem spec_l1In.calls (a0 : Int) (a1 : Int) (a2 : Int) (r : Bool) (w : World) (h : spec_l1In.f a0 a1 a2 = some r) :
    Calls Try.prog 75 #[.int .i64 a0, .int .i64 a1, .int .i64 a2] w fun e w' => e = .returned (.bool r) ∧ Drawn0 w w' := by
  have H : (if a0 ≥ a1 then (some (decide (a0 ≤ a2))) else (some false)) = some r := h
  clear h
  by_cases c4 : a0 ≥ a1
  · rw [if_pos c4] at H
    have c4b0 : decide (a1 ≤ a0) = true := decide_eq_true c4
    clear c4
    obtain rfl := Option.some.inj H
    go_enter Try.func75, Try.ntmps75
    go_wp2
    go_ret
    exact ⟨by first | rfl | (simp; done) | (simp [*]; done), by repeat (first | exact Drawn0.refl _ | apply Drawn0.step)⟩
  · rw [if_neg c4] at H
    have c4b0 : decide (a1 ≤ a0) = false := decide_eq_false c4
    clear c4
    obtain rfl := Option.some.inj H
    go_enter Try.func75, Try.ntmps75
    go_wp2
    go_ret
    exact ⟨by first | rfl | (simp; done) | (simp [*]; done), by repeat (first | exact Drawn0.refl _ | apply Drawn0.step)⟩

/-! ### spec_AddrOk: function 25 -/
def spec_AddrOk.f (a0_0 : Bool) (a0_1 : Int) (a0_2 : Int) : Option (Bool) := if a0_0 = true then (some true) else (if a0_1 = 0 then ((spec_l1In.f a0_2 0 4294967295).bind fun t237 => (some t237)) else (some false))
set_option maxHeartbeats 8000000 in
set_option maxRecDepth 100000 in
theorem spec_AddrOk.calls (a0_0 : Bool) (a0_1 : Int) (a0_2 : Int) (r : Bool) (w : World) (h : spec_AddrOk.f a0_0 a0_1 a0_2 = some r) :
    Calls Try.prog 25 #[.agg #[.bool a0_0, .int .i64 a0_1, .int .i64 a0_2]] w fun e w' => e = .returned (.bool r) ∧ Below w.heap.size w w' := by
  have hu26 := Try.underlying26
  have HB := Aside0.mk (Below.refl w.heap.size w)
  have H : (if a0_0 = true then (some true) else (if a0_1 = 0 then ((spec_l1In.f a0_2 0 4294967295).bind fun t237 => (some t237)) else (some false))) = some r := h
  clear h
  by_cases c2 : a0_0 = true
  · subst c2
    have H1 : (some true) = some r := by rw [if_pos rfl] at H; exact H
    clear H
    have H := H1
    clear H1
    obtain rfl := Option.some.inj H
    go_enter Try.func25, Try.ntmps25
    go_wp2_with (first | ((with_reducible refine gate_dst (N := 1) rfl ?_); refine box_event ?hg (N := 1) ?hd (cs := #[.bool true, .int .i64 a0_1, .int .i64 a0_2]) (t := 26) ?hr ?_; (case hd => rfl); (case hg => rfl); (case hr => first | (go_simp; done) | (go_simp; rfl)); intro gb236 hg w3 hbox hb; have n0_ := Aside0.mk (below_step (by repeat (first | (with_reducible first | exact HB.out | apply below_alloc | apply pw_below_drewN | apply below_drew1) | exact HB.out)) hb); have n1_ := Aside0.mk (hbox); have n2_ := Aside0.mk ((by rw [hg]; exact (below_size (by repeat (first | (with_reducible first | exact HB.out | apply below_alloc | apply pw_below_drewN | apply below_drew1) | exact HB.out))) : w.heap.size ≤ gb236)); have n3_ := Aside0.mk ((by rw [hg]; exact (below_size (by repeat (first | (with_reducible first | exact HB.out | apply below_alloc | apply pw_below_drewN | apply below_drew1) | exact HB.out))) : w.heap.size ≤ gb236)); clear HB; have HB := n0_; have BK236 := n1_; have GW236 := n2_; have GE236 := n3_; clear n0_ n1_ n2_ n3_; clear hb hbox hg; have hcz4_0 : w3.cell? ⟨gb236, 0, none⟩ = some (.bool true) := (blk_cell BK236.out 0).trans rfl; have hcz4_1 : w3.cell? ⟨gb236, 1, none⟩ = some (.int .i64 a0_1) := (blk_cell BK236.out 1).trans rfl; have hcz4_2 : w3.cell? ⟨gb236, 2, none⟩ = some (.int .i64 a0_2) := (blk_cell BK236.out 2).trans rfl; have hfz4_0 := blk_frozen BK236.out 0; have hfz4_1 := blk_frozen BK236.out 1; have hfz4_2 := blk_frozen BK236.out 2))
    go_ret
    exact ⟨by first | rfl | (simp [errW_none, errW_some] <;> rfl) | (simp [*, errW_none, errW_some] <;> rfl), by repeat (first | (with_reducible first | exact HB.out | apply below_alloc | apply pw_below_drewN | apply below_drew1 | refine below_set ?_ GE236.out) | exact HB.out)⟩
  · replace c2 := Bool.eq_false_iff.mpr c2
    subst c2
    have H1 : (if a0_1 = 0 then ((spec_l1In.f a0_2 0 4294967295).bind fun t237 => (some t237)) else (some false)) = some r := by rw [if_neg (show ¬ (false = true) by decide)] at H; exact H
    clear H
    have H := H1
    clear H1
    by_cases c5 : a0_1 = 0
    · rw [if_pos c5] at H
      have c5b0 : (a0_1 == 0) = true := beq_iff_eq.mpr c5
      have c5b1 : (a0_1 != 0) = false := bne_eq_false_iff_eq.mpr c5
      clear c5
      replace H := Option.bind_eq_some_iff.mp H
      obtain ⟨t237, A60, H⟩ := H
      replace H : (some t237) = some r := H
      have A6 := Aside0.mk A60
      clear A60
      obtain rfl := Option.some.inj H
      go_enter Try.func25, Try.ntmps25
      go_wp2_with (first | ((with_reducible refine gate_dst (N := 1) rfl ?_); refine box_event ?hg (N := 1) ?hd (cs := #[.bool false, .int .i64 a0_1, .int .i64 a0_2]) (t := 26) ?hr ?_; (case hd => rfl); (case hg => rfl); (case hr => first | (go_simp; done) | (go_simp; rfl)); intro gb236 hg w7 hbox hb; have n0_ := Aside0.mk (below_step (by repeat (first | (with_reducible first | exact HB.out | apply below_alloc | apply pw_below_drewN | apply below_drew1) | exact HB.out)) hb); have n1_ := Aside0.mk (hbox); have n2_ := Aside0.mk ((by rw [hg]; exact (below_size (by repeat (first | (with_reducible first | exact HB.out | apply below_alloc | apply pw_below_drewN | apply below_drew1) | exact HB.out))) : w.heap.size ≤ gb236)); have n3_ := Aside0.mk ((by rw [hg]; exact (below_size (by repeat (first | (with_reducible first | exact HB.out | apply below_alloc | apply pw_below_drewN | apply below_drew1) | exact HB.out))) : w.heap.size ≤ gb236)); clear HB; have HB := n0_; have BK236 := n1_; have GW236 := n2_; have GE236 := n3_; clear n0_ n1_ n2_ n3_; clear hb hbox hg; have hcz8_0 : w7.cell? ⟨gb236, 0, none⟩ = some (.bool false) := (blk_cell BK236.out 0).trans rfl; have hcz8_1 : w7.cell? ⟨gb236, 1, none⟩ = some (.int .i64 a0_1) := (blk_cell BK236.out 1).trans rfl; have hcz8_2 : w7.cell? ⟨gb236, 2, none⟩ = some (.int .i64 a0_2) := (blk_cell BK236.out 2).trans rfl; have hfz8_0 := blk_frozen BK236.out 0; have hfz8_1 := blk_frozen BK236.out 1; have hfz8_2 := blk_frozen BK236.out 2) | (go_at_call 75; (with_reducible refine (spec_l1In.calls a0_2 0 4294967295 t237 _ A6.out).mono ?_); rintro e w' ⟨rfl, ⟨nd, rfl⟩⟩))
      go_ret
      exact ⟨by first | rfl | (simp [errW_none, errW_some] <;> rfl) | (simp [*, errW_none, errW_some] <;> rfl), by repeat (first | (with_reducible first | exact HB.out | apply below_alloc | apply pw_below_drewN | apply below_drew1 | refine below_set ?_ GE236.out) | exact HB.out)⟩
    · rw [if_neg c5] at H
      have c5b0 : (a0_1 == 0) = false := beq_eq_false_iff_ne.mpr c5
      have c5b1 : (a0_1 != 0) = true := bne_iff_ne.mpr c5
      obtain rfl := Option.some.inj H
      go_enter Try.func25, Try.ntmps25
      go_wp2_with (first | ((with_reducible refine gate_dst (N := 1) rfl ?_); refine box_event ?hg (N := 1) ?hd (cs := #[.bool false, .int .i64 a0_1, .int .i64 a0_2]) (t := 26) ?hr ?_; (case hd => rfl); (case hg => rfl); (case hr => first | (go_simp; done) | (go_simp; rfl)); intro gb236 hg w9 hbox hb; have n0_ := Aside0.mk (below_step (by repeat (first | (with_reducible first | exact HB.out | apply below_alloc | apply pw_below_drewN | apply below_drew1) | exact HB.out)) hb); have n1_ := Aside0.mk (hbox); have n2_ := Aside0.mk ((by rw [hg]; exact (below_size (by repeat (first | (with_reducible first | exact HB.out | apply below_alloc | apply pw_below_drewN | apply below_drew1) | exact HB.out))) : w.heap.size ≤ gb236)); have n3_ := Aside0.mk ((by rw [hg]; exact (below_size (by repeat (first | (with_reducible first | exact HB.out | apply below_alloc | apply pw_below_drewN | apply below_drew1) | exact HB.out))) : w.heap.size ≤ gb236)); clear HB; have HB := n0_; have BK236 := n1_; have GW236 := n2_; have GE236 := n3_; clear n0_ n1_ n2_ n3_; clear hb hbox hg; have hcz10_0 : w9.cell? ⟨gb236, 0, none⟩ = some (.bool false) := (blk_cell BK236.out 0).trans rfl; have hcz10_1 : w9.cell? ⟨gb236, 1, none⟩ = some (.int .i64 a0_1) := (blk_cell BK236.out 1).trans rfl; have hcz10_2 : w9.cell? ⟨gb236, 2, none⟩ = some (.int .i64 a0_2) := (blk_cell BK236.out 2).trans rfl; have hfz10_0 := blk_frozen BK236.out 0; have hfz10_1 := blk_frozen BK236.out 1; have hfz10_2 := blk_frozen BK236.out 2))
      go_ret
      exact ⟨by first | rfl | (simp [errW_none, errW_some] <;> rfl) | (simp [*, errW_none, errW_some] <;> rfl), by repeat (first | (with_reducible first | exact HB.out | apply below_alloc | apply pw_below_drewN | apply below_drew1 | refine below_set ?_ GE236.out) | exact HB.out)⟩

/-! ### impl_narrow: function 77 -/
def impl_narrow.l0 : Nat → Int → List Int → Int → Int → Option (Int)
  | 0, _, _, _, _ => none
  | k + 1, x3, x6, x7, x8 => if x8 < x7 then (if 0 ≤ x8 then (if x8 < (x6.length : Int) then (impl_narrow.l0 k (Go.bits .or .u64 (IntKind.u64.wrap (x3 * 256)) (IntKind.u64.wrap (rd x6 x8))) x6 x7 (wrap64 (x8 + 1))) else (none)) else (none)) else (some (wrap64 (x3)))
def impl_narrow.f (k : Nat) (l0 : List Int) : Option (Int) := impl_narrow.l0 k 0 l0 (l0.length : Int) 0
theorem impl_narrow.mono_l : ∀ k, (∀ y0 y1 y2 y3, LeO (impl_narrow.l0 k y0 y1 y2 y3) (impl_narrow.l0 (k + 1) y0 y1 y2 y3))
  | 0 => fun _ _ _ _ r h => by simp [impl_narrow.l0] at h
  | k + 1 => by
    have ih0 := impl_narrow.mono_l k
    · intro y0 y1 y2 y3
      unfold impl_narrow.l0
      repeat' first
      | (with_reducible exact ih0 _ _ _ _)
      | (with_reducible exact LeO.refl _)
      | (with_reducible exact LeO.none _)
      | (with_reducible refine LeO.ite ?_ ?_)
      | (with_reducible refine LeO.bind ?_ (fun _ => ?_))
      | exact ih0 _ _ _ _
      | exact LeO.none _
      | refine LeO.ite ?_ ?_
      | refine LeO.bind ?_ (fun _ => ?_)
theorem impl_narrow.mono : ∀ a0 k, LeO (impl_narrow.f k a0) (impl_narrow.f (k + 1) a0) := by
  intro a0 k
  have ih0 := impl_narrow.mono_l k
  unfold impl_narrow.f
  repeat' first
      | (with_reducible exact ih0 _ _ _ _)
      | (with_reducible exact LeO.refl _)
      | (with_reducible exact LeO.none _)
      | (with_reducible refine LeO.ite ?_ ?_)
      | (with_reducible refine LeO.bind ?_ (fun _ => ?_))
      | exact ih0 _ _ _ _
      | exact LeO.none _
      | refine LeO.ite ?_ ?_
      | refine LeO.bind ?_ (fun _ => ?_)
set_option maxHeartbeats 8000000 in
set_option maxRecDepth 100000 in
theorem impl_narrow.calls (k : Nat) (A0 : Option Addr) (c0 : Nat) (l0 : List Int) (r : Int) (w : World) (hr0 : Kd.C (Kd.int .u8) w A0 l0.length l0) (hc0 : l0.length ≤ c0) (h : impl_narrow.f k l0 = some r) :
    Calls Try.prog 77 #[.slice A0 l0.length c0] w fun e w' => e = .returned (.int .i64 r) ∧ Drawn0 w w' := by
  have HR0 := Aside0.mk hr0
  have HC0 := Aside0.mk hc0
  clear hr0 hc0
  have H : (impl_narrow.l0 k 0 l0 (l0.length : Int) 0) = some r := h
  clear h
  have H' := Aside0.mk H
  clear H
  go_enter Try.func77, Try.ntmps77
  go_wp2
  go_loopg [3, 8] k (fun kq v3 v8 w' => ∃ (x3_1 : Int) (x8_1 : Int), v3 = .int .u64 x3_1 ∧ v8 = .int .i64 x8_1 ∧ Aside0 (impl_narrow.l0 kq x3_1 l0 (l0.length : Int) x8_1 = some r) ∧ Aside0 (kq ≤ k) ∧ Drawn0 w w')
  case atStart => exact ⟨(0), (0), (by first | rfl | (simp; done) | (simp [*]; done)), (by first | rfl | (simp; done) | (simp [*]; done)), H', ⟨Nat.le_refl _⟩, by repeat (first | exact Drawn0.refl _ | apply Drawn0.step)⟩
  case round =>
    clear H'
    obtain ⟨x3_1, x8_1, rfl, rfl, HA, HK1, ⟨m1, rfl⟩⟩ := hrel
    cases gk with
    | zero => exact absurd HA.out (by simp [impl_narrow.l0])
    | succ k1 =>
      have H := HA.out
      clear HA
      simp only [impl_narrow.l0] at H
      by_cases c2 : x8_1 < (l0.length : Int)
      · rw [if_pos c2] at H
        have c2b0 : decide (x8_1 < (l0.length : Int)) = true := decide_eq_true c2
        clear c2
        by_cases c3 : 0 ≤ x8_1
        · rw [if_pos c3] at H
          have c3b0 : decide (0 ≤ x8_1) = true := decide_eq_true c3
          clear c3
          by_cases c4 : x8_1 < (l0.length : Int)
          · rw [if_pos c4] at H
            have c4b0 : decide (x8_1 < (l0.length : Int)) = true := decide_eq_true c4
            clear c4
            have H' := Aside0.mk H
            clear H
            have p238 : 0 ≤ (x8_1 : Int) := of_decide_eq_true (by first | (with_reducible assumption) | assumption)
            have q238 : x8_1 < (l0.length : Int) := of_decide_eq_true (by first | (with_reducible assumption) | assumption)
            obtain ⟨ad238, e238, hx238_0⟩ := Kd.at_int HR0.out x8_1 p238 q238
            cases e238
            replace p238 := eq_true p238
            replace q238 := eq_true q238
            go_wp2
            go_roundg k1
            case measure => have := HK1.out; omega
            case rel => exact ⟨(Go.bits .or .u64 (IntKind.u64.wrap (x3_1 * 256)) (IntKind.u64.wrap (rd l0 x8_1))), (wrap64 (x8_1 + 1)), (by first | rfl | (simp; done) | (simp [*]; done)), (by first | rfl | (simp; done) | (simp [*]; done)), H', ⟨by have := HK1.out; omega⟩, by repeat (first | exact Drawn0.refl _ | apply Drawn0.step)⟩
          · rw [if_neg c4] at H
            exact absurd H (by simp)
        · rw [if_neg c3] at H
          exact absurd H (by simp)
      · rw [if_neg c2] at H
        have c2b0 : decide (x8_1 < (l0.length : Int)) = false := decide_eq_false c2
        clear c2
        obtain rfl := Option.some.inj H
        go_wp2
        go_ret
        exact ⟨by first | rfl | (simp; done) | (simp [*]; done), by repeat (first | exact Drawn0.refl _ | apply Drawn0.step)⟩

end Go.Proofs.Ytigmadccchofiaa.QFnAddrBytes
