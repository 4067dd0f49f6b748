-- Written by a program of this session (wip/myprint.py); Lean checks it.
import Derived.Test.YtigmadccchofiaaQFnExactLargestx0
import Derived.Test.YtigmadccchofiaaQFnExactLargestx4
import Derived.Test.YtigmadccchofiaaQFnExactLargestx8
namespace Go.Proofs.Ytigmadccchofiaa.QFnExactLargest
open Go.RowKit Go.Proofs.YtigmadccchofiaaW.PrintWords Go.Proofs.YtigmadccchofiaaW.PrintLast Go.Proofs.YtigmadccchofiaaW.PrintMore
attribute [local go_sem] max2_int min2_int max_two min_two max_three min_three max_four min_four   -- for this text's walks alone
set_option linter.unusedVariables false
set_option linter.unusedSimpArgs false

attribute [local go_sem] isSome_setCell
/-! ### spec_l2Right: function 127 -/
def spec_l2Right.l0 : Nat → List (S32) → Int → Option (Bool)
 | 0, _, _ => none
 | k + 1, x0, x3 => if x3 < (x0.length : Int) then (if 0 ≤ x3 then ((spec_PrefixOk.f ((rd_T32 x0 x3).f0.f0) ((rd_T32 x0 x3).f0.f1) ((rd_T32 x0 x3).f0.f2) ((rd_T32 x0 x3).f1)).bind fun t208 => (if t208 = true then (spec_l2Right.l0 k x0 (wrap64 (x3 + 1))) else (some false))) else (none)) else (some (decide ((x0.length : Int) ≤ 300)))
def spec_l2Right.f (k : Nat) (l0 : List (S32)) : Option (Bool) := spec_l2Right.l0 k l0 0
theorem spec_l2Right.mono_l : ∀ k, (∀ y0 y1, LeO (spec_l2Right.l0 k y0 y1) (spec_l2Right.l0 (k + 1) y0 y1))
 | 0 => fun _ _ r h => by simp [spec_l2Right.l0] at h
 | k + 1 => by
  have ih0 := spec_l2Right.mono_l k
  ·intro y0 y1
   unfold spec_l2Right.l0
   repeat' first
   | (with_reducible exact ih0 _ _)
   | (with_reducible exact LeO.refl _)
   | (with_reducible exact LeO.none _)
   | (with_reducible refine LeO.ite ?_ ?_)
   | (with_reducible refine LeO.bind ?_ (fun _ => ?_))
   | exact ih0 _ _
   | exact LeO.none _
   | refine LeO.ite ?_ ?_
   | refine LeO.bind ?_ (fun _ => ?_)
theorem spec_l2Right.mono : ∀ a0 k, LeO (spec_l2Right.f k a0) (spec_l2Right.f (k + 1) a0) := by
 intro a0 k
 have ih0 := spec_l2Right.mono_l k
 unfold spec_l2Right.f
 repeat' first
   | (with_reducible exact ih0 _ _)
   | (with_reducible exact LeO.refl _)
   | (with_reducible exact LeO.none _)
   | (with_reducible refine LeO.ite ?_ ?_)
   | (with_reducible refine LeO.bind ?_ (fun _ => ?_))
   | exact ih0 _ _
   | exact LeO.none _
   | refine LeO.ite ?_ ?_
   | refine LeO.bind ?_ (fun _ => ?_)
set_option maxHeartbeats 8000000 in
set_option maxRecDepth 100000 in
theorem spec_l2Right.calls (k : Nat) (A0 : Option Addr) (c0 : Nat) (l0 : List (S32)) (r : Bool) (w : World) (hr0 : Kd.C k32 w A0 l0.length l0) (hc0 : l0.length ≤ c0) (h : spec_l2Right.f k l0 = some r) :
  Calls Try.prog 127 #[.slice A0 l0.length c0] w fun e w' => e = .returned (.bool r) ∧ Below w.heap.size w w' := by
 have hu32 := Try.underlying32
 have HR0 := Aside0.mk hr0
 have HC0 := Aside0.mk hc0
 clear hr0 hc0
 have HB := Aside0.mk (Below.refl w.heap.size w)
 have H : (spec_l2Right.l0 k l0 0) = some r := h
 clear h
 have H' := Aside0.mk H
 clear H
 go_enter Try.func127, Try.ntmps127
 go_wp2
 go_loopg [3] k (fun kq v3 w' => ∃ (x3_1 : Int), v3 = .int .i64 x3_1 ∧ Aside0 (spec_l2Right.l0 kq l0 x3_1 = some r) ∧ Aside0 (kq ≤ k) ∧ Aside0 (Below w.heap.size w w'))
 case atStart => exact ⟨(0), (by first | rfl | (simp; done) | (simp [*]; done)), H', ⟨Nat.le_refl _⟩, ⟨hb_ HB.out⟩⟩
 case round =>
  clear H'
  try clear c1
  obtain ⟨x3_1, rfl, HA, HK1, HB⟩ := hrel
  cases gk with
  | zero => exact absurd HA.out (by simp [spec_l2Right.l0])
  | succ k1 =>
   have H := HA.out
   clear HA
   simp only [spec_l2Right.l0] at H
   by_cases c2 : x3_1 < (l0.length : Int)
   ·rw [if_pos c2] at H
    have c2b0 : decide (x3_1 < (l0.length : Int)) = true := decide_eq_true c2
    clear c2
    by_cases c3 : 0 ≤ x3_1
    ·rw [if_pos c3] at H
     have c3b0 : decide (0 ≤ x3_1) = true := decide_eq_true c3
     clear c3
     replace H := Option.bind_eq_some_iff.mp H
     obtain ⟨t208, A40, H⟩ := H
     replace H : (if t208 = true then (spec_l2Right.l0 k1 l0 (wrap64 (x3_1 + 1))) else (some false)) = some r := H
     have A4 := Aside0.mk A40
     clear A40
     by_cases c5 : t208 = true
     ·subst c5
      have H1 : (spec_l2Right.l0 k1 l0 (wrap64 (x3_1 + 1))) = some r := by rw [if_pos rfl] at H; exact H
      clear H
      have H := H1
      clear H1
      have H' := Aside0.mk H
      clear H
      have p207 : 0 ≤ (x3_1 : Int) := of_decide_eq_true pa_
      have q207 : x3_1 < (l0.length : Int) := of_decide_eq_true pa_
      obtain ⟨ad207, e207, hx207_0, hx207_1, hx207_2, hx207_3⟩ := at_T32 HR0.out x3_1 p207 q207
      cases e207
      replace hx207_0 := (HB.out.cell (World.block_lt_of_cell? w _ hx207_0)).trans hx207_0
      replace hx207_1 := (HB.out.cell (World.block_lt_of_cell? w _ hx207_1)).trans hx207_1
      replace hx207_2 := (HB.out.cell (World.block_lt_of_cell? w _ hx207_2)).trans hx207_2
      replace hx207_3 := (HB.out.cell (World.block_lt_of_cell? w _ hx207_3)).trans hx207_3
      replace p207 := eq_true p207
      replace q207 := eq_true q207
      go_wp2_with (first | ((with_reducible refine gate_callee (f := 66) rfl ?_); refine goesL_ (some 14) rfl rfl Try.func66 (by kernel_rfl) rfl #[.agg #[.bool ((rd_T32 l0 x3_1).f0.f0), .int .i64 ((rd_T32 l0 x3_1).f0.f1), .int .i64 ((rd_T32 l0 x3_1).f0.f2), .int .i64 ((rd_T32 l0 x3_1).f1)]] rfl al_ ?_; (with_reducible refine (spec_PrefixOk.calls ((rd_T32 l0 x3_1).f0.f0) ((rd_T32 l0 x3_1).f0.f1) ((rd_T32 l0 x3_1).f0.f2) ((rd_T32 l0 x3_1).f1) true _ A4.out).mono ?_); rintro e w6 ⟨rfl, hb⟩; refine ⟨_, rfl, ?_⟩; have n0_ := Aside0.mk (below_step (hb_ HB.out) hb); clear HB; have HB := n0_; clear n0_; (try clear hb); (try clear hb2); (try clear hk); (try clear hi)))
      go_roundg k1
      case measure => have := HK1.out; omega
      case rel => exact ⟨(wrap64 (x3_1 + 1)), (by first | rfl | (simp; done) | (simp [*]; done)), H', ⟨by have := HK1.out; omega⟩, ⟨hb_ HB.out⟩⟩
     ·replace c5 := Bool.eq_false_iff.mpr c5
      subst c5
      have H1 : (some false) = some r := by rw [if_neg (show ¬ (false = true) by decide)] at H; exact H
      clear H
      have H := H1
      clear H1
      obtain rfl := Option.some.inj H
      have p207 : 0 ≤ (x3_1 : Int) := of_decide_eq_true pa_
      have q207 : x3_1 < (l0.length : Int) := of_decide_eq_true pa_
      obtain ⟨ad207, e207, hx207_0, hx207_1, hx207_2, hx207_3⟩ := at_T32 HR0.out x3_1 p207 q207
      cases e207
      replace hx207_0 := (HB.out.cell (World.block_lt_of_cell? w _ hx207_0)).trans hx207_0
      replace hx207_1 := (HB.out.cell (World.block_lt_of_cell? w _ hx207_1)).trans hx207_1
      replace hx207_2 := (HB.out.cell (World.block_lt_of_cell? w _ hx207_2)).trans hx207_2
      replace hx207_3 := (HB.out.cell (World.block_lt_of_cell? w _ hx207_3)).trans hx207_3
      replace p207 := eq_true p207
      replace q207 := eq_true q207
      go_wp2_with (first | ((with_reducible refine gate_callee (f := 66) rfl ?_); refine goesL_ (some 14) rfl rfl Try.func66 (by kernel_rfl) rfl #[.agg #[.bool ((rd_T32 l0 x3_1).f0.f0), .int .i64 ((rd_T32 l0 x3_1).f0.f1), .int .i64 ((rd_T32 l0 x3_1).f0.f2), .int .i64 ((rd_T32 l0 x3_1).f1)]] rfl al_ ?_; (with_reducible refine (spec_PrefixOk.calls ((rd_T32 l0 x3_1).f0.f0) ((rd_T32 l0 x3_1).f0.f1) ((rd_T32 l0 x3_1).f0.f2) ((rd_T32 l0 x3_1).f1) false _ A4.out).mono ?_); rintro e w7 ⟨rfl, hb⟩; refine ⟨_, rfl, ?_⟩; have n0_ := Aside0.mk (below_step (hb_ HB.out) hb); clear HB; have HB := n0_; clear n0_; (try clear hb); (try clear hb2); (try clear hk); (try clear hi)))
      go_ret
      exact ⟨pe_, hb_ HB.out⟩
    ·rw [if_neg c3] at H
     exact absurd H (by simp)
   ·rw [if_neg c2] at H
    have c2b0 : decide (x3_1 < (l0.length : Int)) = false := decide_eq_false c2
    clear c2
    obtain rfl := Option.some.inj H
    go_wp2
    go_ret
    exact ⟨pe_, hb_ HB.out⟩

/-! ### spec_Without: function 111 -/
def spec_Without.f (k : Nat) (a0_0 : Bool) (a0_1 : Int) (a0_2 : Int) (a0_3 : Int) (l1 : List (S32)) : Option ((List (S32))) := (spec_PrefixOk.f a0_0 a0_1 a0_2 a0_3).bind fun t210 => (if t210 = true then ((spec_l2Right.f k l1).bind fun t211 => (if t211 = true then ((spec_l2Left.f k a0_0 a0_1 a0_2 a0_3 l1).bind fun t212 => (some t212)) else (some (([] : List (S32)))))) else (some (([] : List (S32)))))
theorem spec_Without.mono : ∀ a0 a1 a2 a3 a4 k, LeO (spec_Without.f k a0 a1 a2 a3 a4) (spec_Without.f (k + 1) a0 a1 a2 a3 a4) := by
 intro a0 a1 a2 a3 a4 k
 unfold spec_Without.f
 repeat' first
   | (with_reducible exact spec_l2Left.mono _ _ _ _ _ _)
   | (with_reducible exact spec_l2Right.mono _ _)
   | (with_reducible exact LeO.refl _)
   | (with_reducible exact LeO.none _)
   | (with_reducible refine LeO.ite ?_ ?_)
   | (with_reducible refine LeO.bind ?_ (fun _ => ?_))
   | exact spec_l2Left.mono _ _ _ _ _ _
   | exact spec_l2Right.mono _ _
   | exact LeO.none _
   | refine LeO.ite ?_ ?_
   | refine LeO.bind ?_ (fun _ => ?_)
set_option maxHeartbeats 8000000 in
set_option maxRecDepth 100000 in
theorem spec_Without.calls (k : Nat) (a0_0 : Bool) (a0_1 : Int) (a0_2 : Int) (a0_3 : Int) (A1 : Option Addr) (c1 : Nat) (l1 : List (S32)) (r : List (S32)) (w : World) (hr1 : Kd.C k32 w A1 l1.length l1) (hc1 : l1.length ≤ c1) (h : spec_Without.f k a0_0 a0_1 a0_2 a0_3 l1 = some r) :
  Calls Try.prog 111 #[.agg #[.bool a0_0, .int .i64 a0_1, .int .i64 a0_2, .int .i64 a0_3], .slice A1 l1.length c1] w fun e w' => ∃ v0_ : Value, e = .returned (v0_) ∧ Kd.R k32 32 w' w.heap.size (fun _ => True) v0_ r ∧ Below w.heap.size w w' := by
 have hu32 := Try.underlying32
 have HR1 := Aside0.mk hr1
 have HC1 := Aside0.mk hc1
 clear hr1 hc1
 have HB := Aside0.mk (Below.refl w.heap.size w)
 have H : ((spec_PrefixOk.f a0_0 a0_1 a0_2 a0_3).bind fun t210 => (if t210 = true then ((spec_l2Right.f k l1).bind fun t211 => (if t211 = true then ((spec_l2Left.f k a0_0 a0_1 a0_2 a0_3 l1).bind fun t212 => (some t212)) else (some (([] : List (S32)))))) else (some (([] : List (S32)))))) = some r := h
 clear h
 replace H := Option.bind_eq_some_iff.mp H
 obtain ⟨t210, A30, H⟩ := H
 replace H : (if t210 = true then ((spec_l2Right.f k l1).bind fun t211 => (if t211 = true then ((spec_l2Left.f k a0_0 a0_1 a0_2 a0_3 l1).bind fun t212 => (some t212)) else (some (([] : List (S32)))))) else (some (([] : List (S32))))) = some r := H
 have A3 := Aside0.mk A30
 clear A30
 by_cases c4 : t210 = true
 ·subst c4
  have H1 : ((spec_l2Right.f k l1).bind fun t211 => (if t211 = true then ((spec_l2Left.f k a0_0 a0_1 a0_2 a0_3 l1).bind fun t212 => (some t212)) else (some (([] : List (S32)))))) = some r := by rw [if_pos rfl] at H; exact H
  clear H
  have H := H1
  clear H1
  replace H := Option.bind_eq_some_iff.mp H
  obtain ⟨t211, A50, H⟩ := H
  replace H : (if t211 = true then ((spec_l2Left.f k a0_0 a0_1 a0_2 a0_3 l1).bind fun t212 => (some t212)) else (some (([] : List (S32))))) = some r := H
  have A5 := Aside0.mk A50
  clear A50
  by_cases c6 : t211 = true
  ·subst c6
   have H1 : ((spec_l2Left.f k a0_0 a0_1 a0_2 a0_3 l1).bind fun t212 => (some t212)) = some r := by rw [if_pos rfl] at H; exact H
   clear H
   have H := H1
   clear H1
   replace H := Option.bind_eq_some_iff.mp H
   obtain ⟨t212, A70, H⟩ := H
   replace H : (some t212) = some r := H
   have A7 := Aside0.mk A70
   clear A70
   obtain rfl := Option.some.inj H
   go_enter Try.func111, Try.ntmps111
   go_wp2_with (first | ((with_reducible refine gate_dst (N := 2) rfl ?_); refine box_event ?hg (N := 2) ?hd (cs := #[.bool a0_0, .int .i64 a0_1, .int .i64 a0_2, .int .i64 a0_3]) (t := 32) ?hr ?_; (case hd => rfl); (case hg => rfl); (case hr => first | (go_simp; done) | (go_simp; rfl)); intro gb209 hg w8 hbox hb; have n0_ := Aside0.mk (below_step (hb_ HB.out) hb); have n1_ := Aside0.mk (hbox); have n2_ := bg_ hg (below_size (hb_ HB.out)); have n3_ := bg_ hg (below_size (hb_ HB.out)); clear HB; have HB := n0_; have BK209 := n1_; have GW209 := n2_; have GE209 := n3_; clear n0_ n1_ n2_ n3_; clear hb hbox hg; obtain ⟨hcz9_0, hcz9_1, hcz9_2, hcz9_3, hfz9_0, hfz9_1, hfz9_2, hfz9_3⟩ := bc4_ BK209.out) | ((with_reducible refine gate_callee (f := 66) rfl ?_); refine goesL_ (some 6) rfl rfl Try.func66 (by kernel_rfl) rfl #[.agg #[.bool a0_0, .int .i64 a0_1, .int .i64 a0_2, .int .i64 a0_3]] rfl al_ ?_; (with_reducible refine (spec_PrefixOk.calls a0_0 a0_1 a0_2 a0_3 true _ A3.out).mono ?_); rintro e w10 ⟨rfl, hb⟩; refine ⟨_, rfl, ?_⟩; have n0_ := Aside0.mk (blk_below (bk_ BK209.out) hb); have n1_ := Aside0.mk (below_step (hc_ HB.out GE209.out) hb); clear BK209; clear HB; have BK209 := n0_; have HB := n1_; clear n0_ n1_; (try clear hb); (try clear hb2); (try clear hk); (try clear hi)) | (go_at_call 127; (with_reducible refine (spec_l2Right.calls k _ _ l1 true _ ?side1 ?side2 A5.out).mono ?_); (case side1 => repeat (first | exact (Kd.C_below HR1.out HB.out) | (with_reducible refine Kd.C_alloc ?_ _) | (with_reducible refine Kd.C_drewN ?_ _) | (with_reducible refine Kd.C_drew ?_))); (case side2 => exact HC1.out); rintro e w11 ⟨rfl, hb⟩; have n0_ := Aside0.mk (blk_below (bk_ BK209.out) hb); have n1_ := Aside0.mk (below_step (hc_ HB.out GE209.out) hb); clear BK209; clear HB; have BK209 := n0_; have HB := n1_; clear n0_ n1_; (try clear hb); (try clear hb2); (try clear hk); (try clear hi); obtain ⟨hcz12_0, hcz12_1, hcz12_2, hcz12_3, hfz12_0, hfz12_1, hfz12_2, hfz12_3⟩ := bc4_ BK209.out) | ((with_reducible refine gate_callee (f := 108) rfl ?_); refine goesL_ (some 16) rfl rfl Try.func108 (by kernel_rfl) rfl #[.agg #[.bool a0_0, .int .i64 a0_1, .int .i64 a0_2, .int .i64 a0_3], .slice A1 l1.length c1] rfl al_ ?_; (with_reducible refine (spec_l2Left.calls k a0_0 a0_1 a0_2 a0_3 _ _ l1 t212 _ ?side1 ?side2 A7.out).mono ?_); (case side1 => repeat (first | exact (Kd.C_below HR1.out HB.out) | (with_reducible refine Kd.C_alloc ?_ _) | (with_reducible refine Kd.C_drewN ?_ _) | (with_reducible refine Kd.C_drew ?_))); (case side2 => exact HC1.out); rintro e w13 ⟨v213, rfl, ho0, hb⟩; refine ⟨_, rfl, ?_⟩; have n0_ := Aside0.mk (Kd.R_lower (Kd.R_newB ho0 (g := gb209) (o := .cells #[.bool a0_0, .int .i64 a0_1, .int .i64 a0_2, .int .i64 a0_3] 32 (0, 0)) (bk_ BK209.out)) (below_size (hc_ HB.out GE209.out))); have n1_ := Aside0.mk (blk_below (bk_ BK209.out) hb); have n2_ := Aside0.mk (below_step (hc_ HB.out GE209.out) hb); clear BK209; clear HB; have HO214 := n0_; have BK209 := n1_; have HB := n2_; clear n0_ n1_ n2_; (try clear hb); (try clear hb2); (try clear hk); (try clear hi); (try clear ho0)))
   go_ret
   exact ⟨_, by first | rfl | (simp [errW_none, errW_some] <;> rfl) | (simp [*, errW_none, errW_some] <;> rfl), by (with_reducible repeat (first | apply Kd.R_alloc | apply Kd.R_drewN | apply Kd.R_drew)); exact Kd.R_mono HO214.out (fun _ hk => trivial), hc_ HB.out GE209.out⟩
  ·replace c6 := Bool.eq_false_iff.mpr c6
   subst c6
   have H1 : (some (([] : List (S32)))) = some r := by rw [if_neg (show ¬ (false = true) by decide)] at H; exact H
   clear H
   have H := H1
   clear H1
   obtain ⟨y215, hy215⟩ : ∃ y_ : List (S32), y_ = (([] : List (S32))) := ⟨_, rfl⟩
   replace H : (some y215) = some r := by first | (rw [hy215]; with_reducible exact H) | (have H2_ := (Option.bind_some _ _).symm.trans H; rw [hy215]; with_reducible exact H2_) | (have H2_ := (Option.bind_some _ _).symm.trans H; with_reducible exact H2_) | with_reducible exact H | (rw [hy215]; exact H) | exact H
   have Ny215 := Aside0.mk hy215
   clear hy215
   obtain rfl := Option.some.inj H
   go_enter Try.func111, Try.ntmps111
   go_wp2_with (first | ((with_reducible refine gate_dst (N := 2) rfl ?_); refine box_event ?hg (N := 2) ?hd (cs := #[.bool a0_0, .int .i64 a0_1, .int .i64 a0_2, .int .i64 a0_3]) (t := 32) ?hr ?_; (case hd => rfl); (case hg => rfl); (case hr => first | (go_simp; done) | (go_simp; rfl)); intro gb209 hg w14 hbox hb; have n0_ := Aside0.mk (below_step (hb_ HB.out) hb); have n1_ := Aside0.mk (hbox); have n2_ := bg_ hg (below_size (hb_ HB.out)); have n3_ := bg_ hg (below_size (hb_ HB.out)); clear HB; have HB := n0_; have BK209 := n1_; have GW209 := n2_; have GE209 := n3_; clear n0_ n1_ n2_ n3_; clear hb hbox hg; obtain ⟨hcz15_0, hcz15_1, hcz15_2, hcz15_3, hfz15_0, hfz15_1, hfz15_2, hfz15_3⟩ := bc4_ BK209.out) | ((with_reducible refine gate_callee (f := 66) rfl ?_); refine goesL_ (some 6) rfl rfl Try.func66 (by kernel_rfl) rfl #[.agg #[.bool a0_0, .int .i64 a0_1, .int .i64 a0_2, .int .i64 a0_3]] rfl al_ ?_; (with_reducible refine (spec_PrefixOk.calls a0_0 a0_1 a0_2 a0_3 true _ A3.out).mono ?_); rintro e w16 ⟨rfl, hb⟩; refine ⟨_, rfl, ?_⟩; have n0_ := Aside0.mk (blk_below (bk_ BK209.out) hb); have n1_ := Aside0.mk (below_step (hc_ HB.out GE209.out) hb); clear BK209; clear HB; have BK209 := n0_; have HB := n1_; clear n0_ n1_; (try clear hb); (try clear hb2); (try clear hk); (try clear hi)) | (go_at_call 127; (with_reducible refine (spec_l2Right.calls k _ _ l1 false _ ?side1 ?side2 A5.out).mono ?_); (case side1 => repeat (first | exact (Kd.C_below HR1.out HB.out) | (with_reducible refine Kd.C_alloc ?_ _) | (with_reducible refine Kd.C_drewN ?_ _) | (with_reducible refine Kd.C_drew ?_))); (case side2 => exact HC1.out); rintro e w17 ⟨rfl, hb⟩; have n0_ := Aside0.mk (blk_below (bk_ BK209.out) hb); have n1_ := Aside0.mk (below_step (hc_ HB.out GE209.out) hb); clear BK209; clear HB; have BK209 := n0_; have HB := n1_; clear n0_ n1_; (try clear hb); (try clear hb2); (try clear hk); (try clear hi)) | ((with_reducible refine gate_dst (N := 13) rfl ?_); refine Kd.R_lit k32 _ 32 ?hg (N := 13) ?hd (xs := ([] : List (S32))) (inner := []) (ok := fun _ => True) (okp := fun _ => True) ?hr ?hp (fun _ hk => hk) trivial (Below.refl _ _) (Nat.le_refl _) (by simp) ?_; (case hd => rfl); (case hg => rfl); (case hr => first | (go_simp; done) | (go_simp; rfl)); (case hp => exact (Reps.none _ _)); intro v216 w18 ho19 hb hg_ hnew_; clear hg_ hnew_; (first | rw [← Ny215.out] at ho19 | (simp only [Int.reduceToNat] at ho19; rw [← Ny215.out] at ho19)); have n0_ := Aside0.mk (Kd.R_lower (Kd.R_newB ho19 (g := gb209) (o := .cells #[.bool a0_0, .int .i64 a0_1, .int .i64 a0_2, .int .i64 a0_3] 32 (0, 0)) (bk_ BK209.out)) (below_size (hc_ HB.out GE209.out))); have n1_ := Aside0.mk (blk_below (bk_ BK209.out) hb); have n2_ := Aside0.mk (below_step (hc_ HB.out GE209.out) hb); clear BK209; clear HB; have HO217 := n0_; have BK209 := n1_; have HB := n2_; clear n0_ n1_ n2_; clear hb ho19))
   go_ret
   exact ⟨_, by first | rfl | (simp [errW_none, errW_some] <;> rfl) | (simp [*, errW_none, errW_some] <;> rfl), by (with_reducible repeat (first | apply Kd.R_alloc | apply Kd.R_drewN | apply Kd.R_drew)); exact Kd.R_mono HO217.out (fun _ hk => trivial), hc_ HB.out GE209.out⟩
 ·replace c4 := Bool.eq_false_iff.mpr c4
  subst c4
  have H1 : (some (([] : List (S32)))) = some r := by rw [if_neg (show ¬ (false = true) by decide)] at H; exact H
  clear H
  have H := H1
  clear H1
  obtain ⟨y218, hy218⟩ : ∃ y_ : List (S32), y_ = (([] : List (S32))) := ⟨_, rfl⟩
  replace H : (some y218) = some r := by first | (rw [hy218]; with_reducible exact H) | (have H2_ := (Option.bind_some _ _).symm.trans H; rw [hy218]; with_reducible exact H2_) | (have H2_ := (Option.bind_some _ _).symm.trans H; with_reducible exact H2_) | with_reducible exact H | (rw [hy218]; exact H) | exact H
  have Ny218 := Aside0.mk hy218
  clear hy218
  obtain rfl := Option.some.inj H
  go_enter Try.func111, Try.ntmps111
  go_wp2_with (first | ((with_reducible refine gate_dst (N := 2) rfl ?_); refine box_event ?hg (N := 2) ?hd (cs := #[.bool a0_0, .int .i64 a0_1, .int .i64 a0_2, .int .i64 a0_3]) (t := 32) ?hr ?_; (case hd => rfl); (case hg => rfl); (case hr => first | (go_simp; done) | (go_simp; rfl)); intro gb209 hg w20 hbox hb; have n0_ := Aside0.mk (below_step (hb_ HB.out) hb); have n1_ := Aside0.mk (hbox); have n2_ := bg_ hg (below_size (hb_ HB.out)); have n3_ := bg_ hg (below_size (hb_ HB.out)); clear HB; have HB := n0_; have BK209 := n1_; have GW209 := n2_; have GE209 := n3_; clear n0_ n1_ n2_ n3_; clear hb hbox hg; obtain ⟨hcz21_0, hcz21_1, hcz21_2, hcz21_3, hfz21_0, hfz21_1, hfz21_2, hfz21_3⟩ := bc4_ BK209.out) | ((with_reducible refine gate_callee (f := 66) rfl ?_); refine goesL_ (some 6) rfl rfl Try.func66 (by kernel_rfl) rfl #[.agg #[.bool a0_0, .int .i64 a0_1, .int .i64 a0_2, .int .i64 a0_3]] rfl al_ ?_; (with_reducible refine (spec_PrefixOk.calls a0_0 a0_1 a0_2 a0_3 false _ A3.out).mono ?_); rintro e w22 ⟨rfl, hb⟩; refine ⟨_, rfl, ?_⟩; have n0_ := Aside0.mk (blk_below (bk_ BK209.out) hb); have n1_ := Aside0.mk (below_step (hc_ HB.out GE209.out) hb); clear BK209; clear HB; have BK209 := n0_; have HB := n1_; clear n0_ n1_; (try clear hb); (try clear hb2); (try clear hk); (try clear hi)) | ((with_reducible refine gate_dst (N := 13) rfl ?_); refine Kd.R_lit k32 _ 32 ?hg (N := 13) ?hd (xs := ([] : List (S32))) (inner := []) (ok := fun _ => True) (okp := fun _ => True) ?hr ?hp (fun _ hk => hk) trivial (Below.refl _ _) (Nat.le_refl _) (by simp) ?_; (case hd => rfl); (case hg => rfl); (case hr => first | (go_simp; done) | (go_simp; rfl)); (case hp => exact (Reps.none _ _)); intro v219 w23 ho24 hb hg_ hnew_; clear hg_ hnew_; (first | rw [← Ny218.out] at ho24 | (simp only [Int.reduceToNat] at ho24; rw [← Ny218.out] at ho24)); have n0_ := Aside0.mk (Kd.R_lower (Kd.R_newB ho24 (g := gb209) (o := .cells #[.bool a0_0, .int .i64 a0_1, .int .i64 a0_2, .int .i64 a0_3] 32 (0, 0)) (bk_ BK209.out)) (below_size (hc_ HB.out GE209.out))); have n1_ := Aside0.mk (blk_below (bk_ BK209.out) hb); have n2_ := Aside0.mk (below_step (hc_ HB.out GE209.out) hb); clear BK209; clear HB; have HO220 := n0_; have BK209 := n1_; have HB := n2_; clear n0_ n1_ n2_; clear hb ho24))
  go_ret
  exact ⟨_, by first | rfl | (simp [errW_none, errW_some] <;> rfl) | (simp [*, errW_none, errW_some] <;> rfl), by (with_reducible repeat (first | apply Kd.R_alloc | apply Kd.R_drewN | apply Kd.R_drew)); exact Kd.R_mono HO220.out (fun _ hk => trivial), hc_ HB.out GE209.out⟩

/-! ### spec_Largest: function 58 -/
def spec_Largest.l0 : Nat → List (S32) → Int → Bool → Int → Int → Int → Option (Bool × Int × Int × Int × Bool)
 | 0, _, _, _, _, _, _ => none
 | k + 1, x6, x8, x228000, x228001, x228002, x228003 => if x8 < (x6.length : Int) then (if 0 ≤ x8 then (if ((rd_T32 x6 x8).f1) < x228003 then (spec_Largest.l0 k x6 (wrap64 (x8 + 1)) ((rd_T32 x6 x8).f0.f0) ((rd_T32 x6 x8).f0.f1) ((rd_T32 x6 x8).f0.f2) ((rd_T32 x6 x8).f1)) else (spec_Largest.l0 k x6 (wrap64 (x8 + 1)) x228000 x228001 x228002 x228003)) else (none)) else (some (x228000, x228001, x228002, x228003, true))
def spec_Largest.f (k : Nat) (a0_0 : Bool) (a0_1 : Int) (a0_2 : Int) (a0_3 : Int) (l1 : List (S32)) : Option (Bool × Int × Int × Int × Bool) := (spec_Without.f k a0_0 a0_1 a0_2 a0_3 l1).bind fun t223 => (if (t223.length : Int) = 0 then (some (false, 0, 0, 0, false)) else (if 0 < (t223.length : Int) then (spec_Largest.l0 k t223 1 ((rd_T32 t223 0).f0.f0) ((rd_T32 t223 0).f0.f1) ((rd_T32 t223 0).f0.f2) ((rd_T32 t223 0).f1)) else (none)))
theorem spec_Largest.mono_l : ∀ k, (∀ y0 y1 y2 y3 y4 y5, LeO (spec_Largest.l0 k y0 y1 y2 y3 y4 y5) (spec_Largest.l0 (k + 1) y0 y1 y2 y3 y4 y5))
 | 0 => fun _ _ _ _ _ _ r h => by simp [spec_Largest.l0] at h
 | k + 1 => by
  have ih0 := spec_Largest.mono_l k
  ·intro y0 y1 y2 y3 y4 y5
   unfold spec_Largest.l0
   repeat' first
   | (with_reducible exact ih0 _ _ _ _ _ _)
   | (with_reducible exact spec_Without.mono _ _ _ _ _ _)
   | (with_reducible exact LeO.refl _)
   | (with_reducible exact LeO.none _)
   | (with_reducible refine LeO.ite ?_ ?_)
   | (with_reducible refine LeO.bind ?_ (fun _ => ?_))
   | exact ih0 _ _ _ _ _ _
   | exact spec_Without.mono _ _ _ _ _ _
   | exact LeO.none _
   | refine LeO.ite ?_ ?_
   | refine LeO.bind ?_ (fun _ => ?_)
theorem spec_Largest.mono : ∀ a0 a1 a2 a3 a4 k, LeO (spec_Largest.f k a0 a1 a2 a3 a4) (spec_Largest.f (k + 1) a0 a1 a2 a3 a4) := by
 intro a0 a1 a2 a3 a4 k
 have ih0 := spec_Largest.mono_l k
 unfold spec_Largest.f
 repeat' first
   | (with_reducible exact ih0 _ _ _ _ _ _)
   | (with_reducible exact spec_Without.mono _ _ _ _ _ _)
   | (with_reducible exact LeO.refl _)
   | (with_reducible exact LeO.none _)
   | (with_reducible refine LeO.ite ?_ ?_)
   | (with_reducible refine LeO.bind ?_ (fun _ => ?_))
   | exact ih0 _ _ _ _ _ _
   | exact spec_Without.mono _ _ _ _ _ _
   | exact LeO.none _
   | refine LeO.ite ?_ ?_
   | refine LeO.bind ?_ (fun _ => ?_)
set_option maxHeartbeats 8000000 in
set_option maxRecDepth 100000 in
theorem spec_Largest.calls (k : Nat) (a0_0 : Bool) (a0_1 : Int) (a0_2 : Int) (a0_3 : Int) (A1 : Option Addr) (c1 : Nat) (l1 : List (S32)) (r1 : Bool) (r2 : Int) (r3 : Int) (r4 : Int) (r5 : Bool) (w : World) (hr1 : Kd.C k32 w A1 l1.length l1) (hc1 : l1.length ≤ c1) (h : spec_Largest.f k a0_0 a0_1 a0_2 a0_3 l1 = some (r1, r2, r3, r4, r5)) :
  Calls Try.prog 58 #[.agg #[.bool a0_0, .int .i64 a0_1, .int .i64 a0_2, .int .i64 a0_3], .slice A1 l1.length c1] w fun e w' => e = .returned (.tuple #[.agg #[.bool r1, .int .i64 r2, .int .i64 r3, .int .i64 r4], .bool r5]) ∧ Below w.heap.size w w' := by
 have hu32 := Try.underlying32
 have HR1 := Aside0.mk hr1
 have HC1 := Aside0.mk hc1
 clear hr1 hc1
 have HB := Aside0.mk (Below.refl w.heap.size w)
 have H : ((spec_Without.f k a0_0 a0_1 a0_2 a0_3 l1).bind fun t223 => (if (t223.length : Int) = 0 then (some (false, 0, 0, 0, false)) else (if 0 < (t223.length : Int) then (spec_Largest.l0 k t223 1 ((rd_T32 t223 0).f0.f0) ((rd_T32 t223 0).f0.f1) ((rd_T32 t223 0).f0.f2) ((rd_T32 t223 0).f1)) else (none)))) = some (r1, r2, r3, r4, r5) := h
 clear h
 replace H := Option.bind_eq_some_iff.mp H
 obtain ⟨t223, A30, H⟩ := H
 replace H : (if (t223.length : Int) = 0 then (some (false, 0, 0, 0, false)) else (if 0 < (t223.length : Int) then (spec_Largest.l0 k t223 1 ((rd_T32 t223 0).f0.f0) ((rd_T32 t223 0).f0.f1) ((rd_T32 t223 0).f0.f2) ((rd_T32 t223 0).f1)) else (none))) = some (r1, r2, r3, r4, r5) := H
 have A3 := Aside0.mk A30
 clear A30
 by_cases c4 : (t223.length : Int) = 0
 ·rw [if_pos c4] at H
  have c4b0 : ((t223.length : Int) == 0) = true := beq_iff_eq.mpr c4
  have c4b1 : ((t223.length : Int) != 0) = false := bne_eq_false_iff_eq.mpr c4
  clear c4
  simp only [Option.some.injEq, Prod.mk.injEq] at H
  obtain ⟨rfl, rfl, rfl, rfl, rfl⟩ := H
  go_enter Try.func58, Try.ntmps58
  go_wp2_with (first | ((with_reducible refine gate_dst (N := 2) rfl ?_); refine box_event ?hg (N := 2) ?hd (cs := #[.bool a0_0, .int .i64 a0_1, .int .i64 a0_2, .int .i64 a0_3]) (t := 32) ?hr ?_; (case hd => rfl); (case hg => rfl); (case hr => first | (go_simp; done) | (go_simp; rfl)); intro gb221 hg w5 hbox hb; have n0_ := Aside0.mk (below_step (hb_ HB.out) hb); have n1_ := Aside0.mk (hbox); have n2_ := bg_ hg (below_size (hb_ HB.out)); have n3_ := bg_ hg (below_size (hb_ HB.out)); clear HB; have HB := n0_; have BK221 := n1_; have GW221 := n2_; have GE221 := n3_; clear n0_ n1_ n2_ n3_; clear hb hbox hg) | ((with_reducible refine gate_dst (N := 4) rfl ?_); refine box_event ?hg (N := 4) ?hd (cs := #[.bool false, .int .i64 0, .int .i64 0, .int .i64 0]) (t := 32) ?hr ?_; (case hd => rfl); (case hg => rfl); (case hr => first | (go_simp; done) | (go_simp; rfl)); intro gb222 hg w6 hbox hb; have n0_ := Aside0.mk (blk_below (bk_ BK221.out) hb); have n1_ := Aside0.mk (below_step (hc_ HB.out GE221.out) hb); have n2_ := Aside0.mk (hbox); have n3_ := bg_ hg (below_size (hc_ HB.out GE221.out)); have n4_ := bg_ hg (below_size (hc_ HB.out GE221.out)); have n5_ := bn_ hg (blk_lt (bk_ BK221.out)); have n6_ := bm_ hg (blk_lt (bk_ BK221.out)); clear BK221; clear HB; have BK221 := n0_; have HB := n1_; have BK222 := n2_; have GW222 := n3_; have GE222 := n4_; have NB221_222 := n5_; have NB222_221 := n6_; clear n0_ n1_ n2_ n3_ n4_ n5_ n6_; clear hb hbox hg; have hnb7 := NB221_222.out; have hnc7 := NB222_221.out; obtain ⟨hcz8_0, hcz8_1, hcz8_2, hcz8_3, hfz8_0, hfz8_1, hfz8_2, hfz8_3⟩ := bc4_ BK221.out) | (go_at_call 111; (with_reducible refine (spec_Without.calls k a0_0 a0_1 a0_2 a0_3 _ _ l1 t223 _ ?side1 ?side2 A3.out).mono ?_); (case side1 => repeat (first | exact (Kd.C_below HR1.out HB.out) | (with_reducible refine Kd.C_alloc ?_ _) | (with_reducible refine Kd.C_drewN ?_ _) | (with_reducible refine Kd.C_drew ?_))); (case side2 => exact HC1.out); rintro e w9 ⟨v224, rfl, ho0, hb⟩; have n0_ := Aside0.mk (Kd.R_lower (Kd.R_newB (Kd.R_newB ho0 (g := gb221) (o := .cells #[.bool a0_0, .int .i64 a0_1, .int .i64 a0_2, .int .i64 a0_3] 32 (0, 0)) (bk_ BK221.out)) (g := gb222) (o := .cells #[.bool false, .int .i64 0, .int .i64 0, .int .i64 0] 32 (0, 0)) (bk_ BK222.out)) (below_size (hd_ HB.out GE221.out GE222.out))); have n1_ := Aside0.mk (blk_below (bk_ BK221.out) hb); have n2_ := Aside0.mk (blk_below (bk_ BK222.out) hb); have n3_ := Aside0.mk (below_step (hd_ HB.out GE221.out GE222.out) hb); clear BK221; clear BK222; clear HB; have HO225 := n0_; have BK221 := n1_; have BK222 := n2_; have HB := n3_; clear n0_ n1_ n2_ n3_; (try clear hb); (try clear hb2); (try clear hk); (try clear hi); (try clear ho0); obtain ⟨Ao10, co10, eo10⟩ := Kd.R_slice HO225.out; subst eo10; obtain ⟨hcz11_0, hcz11_1, hcz11_2, hcz11_3, hfz11_0, hfz11_1, hfz11_2, hfz11_3⟩ := bc4_ BK222.out))
  repeat (go_quiet (first | ((with_reducible refine gate_dst (N := 2) rfl ?_); refine box_event ?hg (N := 2) ?hd (cs := #[.bool a0_0, .int .i64 a0_1, .int .i64 a0_2, .int .i64 a0_3]) (t := 32) ?hr ?_; (case hd => rfl); (case hg => rfl); (case hr => first | (go_simp; done) | (go_simp; rfl)); intro gb221 hg w5 hbox hb; have n0_ := Aside0.mk (below_step (hb_ HB.out) hb); have n1_ := Aside0.mk (hbox); have n2_ := bg_ hg (below_size (hb_ HB.out)); have n3_ := bg_ hg (below_size (hb_ HB.out)); clear HB; have HB := n0_; have BK221 := n1_; have GW221 := n2_; have GE221 := n3_; clear n0_ n1_ n2_ n3_; clear hb hbox hg) | ((with_reducible refine gate_dst (N := 4) rfl ?_); refine box_event ?hg (N := 4) ?hd (cs := #[.bool false, .int .i64 0, .int .i64 0, .int .i64 0]) (t := 32) ?hr ?_; (case hd => rfl); (case hg => rfl); (case hr => first | (go_simp; done) | (go_simp; rfl)); intro gb222 hg w6 hbox hb; have n0_ := Aside0.mk (blk_below (bk_ BK221.out) hb); have n1_ := Aside0.mk (below_step (hc_ HB.out GE221.out) hb); have n2_ := Aside0.mk (hbox); have n3_ := bg_ hg (below_size (hc_ HB.out GE221.out)); have n4_ := bg_ hg (below_size (hc_ HB.out GE221.out)); have n5_ := bn_ hg (blk_lt (bk_ BK221.out)); have n6_ := bm_ hg (blk_lt (bk_ BK221.out)); clear BK221; clear HB; have BK221 := n0_; have HB := n1_; have BK222 := n2_; have GW222 := n3_; have GE222 := n4_; have NB221_222 := n5_; have NB222_221 := n6_; clear n0_ n1_ n2_ n3_ n4_ n5_ n6_; clear hb hbox hg; have hnb7 := NB221_222.out; have hnc7 := NB222_221.out; obtain ⟨hcz8_0, hcz8_1, hcz8_2, hcz8_3, hfz8_0, hfz8_1, hfz8_2, hfz8_3⟩ := bc4_ BK221.out) | (go_at_call 111; (with_reducible refine (spec_Without.calls k a0_0 a0_1 a0_2 a0_3 _ _ l1 t223 _ ?side1 ?side2 A3.out).mono ?_); (case side1 => repeat (first | exact (Kd.C_below HR1.out HB.out) | (with_reducible refine Kd.C_alloc ?_ _) | (with_reducible refine Kd.C_drewN ?_ _) | (with_reducible refine Kd.C_drew ?_))); (case side2 => exact HC1.out); rintro e w9 ⟨v224, rfl, ho0, hb⟩; have n0_ := Aside0.mk (Kd.R_lower (Kd.R_newB (Kd.R_newB ho0 (g := gb221) (o := .cells #[.bool a0_0, .int .i64 a0_1, .int .i64 a0_2, .int .i64 a0_3] 32 (0, 0)) (bk_ BK221.out)) (g := gb222) (o := .cells #[.bool false, .int .i64 0, .int .i64 0, .int .i64 0] 32 (0, 0)) (bk_ BK222.out)) (below_size (hd_ HB.out GE221.out GE222.out))); have n1_ := Aside0.mk (blk_below (bk_ BK221.out) hb); have n2_ := Aside0.mk (blk_below (bk_ BK222.out) hb); have n3_ := Aside0.mk (below_step (hd_ HB.out GE221.out GE222.out) hb); clear BK221; clear BK222; clear HB; have HO225 := n0_; have BK221 := n1_; have BK222 := n2_; have HB := n3_; clear n0_ n1_ n2_ n3_; (try clear hb); (try clear hb2); (try clear hk); (try clear hi); (try clear ho0); obtain ⟨Ao10, co10, eo10⟩ := Kd.R_slice HO225.out; subst eo10; obtain ⟨hcz11_0, hcz11_1, hcz11_2, hcz11_3, hfz11_0, hfz11_1, hfz11_2, hfz11_3⟩ := bc4_ BK222.out)); try go_wp2_with (first | ((with_reducible refine gate_dst (N := 2) rfl ?_); refine box_event ?hg (N := 2) ?hd (cs := #[.bool a0_0, .int .i64 a0_1, .int .i64 a0_2, .int .i64 a0_3]) (t := 32) ?hr ?_; (case hd => rfl); (case hg => rfl); (case hr => first | (go_simp; done) | (go_simp; rfl)); intro gb221 hg w5 hbox hb; have n0_ := Aside0.mk (below_step (hb_ HB.out) hb); have n1_ := Aside0.mk (hbox); have n2_ := bg_ hg (below_size (hb_ HB.out)); have n3_ := bg_ hg (below_size (hb_ HB.out)); clear HB; have HB := n0_; have BK221 := n1_; have GW221 := n2_; have GE221 := n3_; clear n0_ n1_ n2_ n3_; clear hb hbox hg) | ((with_reducible refine gate_dst (N := 4) rfl ?_); refine box_event ?hg (N := 4) ?hd (cs := #[.bool false, .int .i64 0, .int .i64 0, .int .i64 0]) (t := 32) ?hr ?_; (case hd => rfl); (case hg => rfl); (case hr => first | (go_simp; done) | (go_simp; rfl)); intro gb222 hg w6 hbox hb; have n0_ := Aside0.mk (blk_below (bk_ BK221.out) hb); have n1_ := Aside0.mk (below_step (hc_ HB.out GE221.out) hb); have n2_ := Aside0.mk (hbox); have n3_ := bg_ hg (below_size (hc_ HB.out GE221.out)); have n4_ := bg_ hg (below_size (hc_ HB.out GE221.out)); have n5_ := bn_ hg (blk_lt (bk_ BK221.out)); have n6_ := bm_ hg (blk_lt (bk_ BK221.out)); clear BK221; clear HB; have BK221 := n0_; have HB := n1_; have BK222 := n2_; have GW222 := n3_; have GE222 := n4_; have NB221_222 := n5_; have NB222_221 := n6_; clear n0_ n1_ n2_ n3_ n4_ n5_ n6_; clear hb hbox hg; have hnb7 := NB221_222.out; have hnc7 := NB222_221.out; obtain ⟨hcz8_0, hcz8_1, hcz8_2, hcz8_3, hfz8_0, hfz8_1, hfz8_2, hfz8_3⟩ := bc4_ BK221.out) | (go_at_call 111; (with_reducible refine (spec_Without.calls k a0_0 a0_1 a0_2 a0_3 _ _ l1 t223 _ ?side1 ?side2 A3.out).mono ?_); (case side1 => repeat (first | exact (Kd.C_below HR1.out HB.out) | (with_reducible refine Kd.C_alloc ?_ _) | (with_reducible refine Kd.C_drewN ?_ _) | (with_reducible refine Kd.C_drew ?_))); (case side2 => exact HC1.out); rintro e w9 ⟨v224, rfl, ho0, hb⟩; have n0_ := Aside0.mk (Kd.R_lower (Kd.R_newB (Kd.R_newB ho0 (g := gb221) (o := .cells #[.bool a0_0, .int .i64 a0_1, .int .i64 a0_2, .int .i64 a0_3] 32 (0, 0)) (bk_ BK221.out)) (g := gb222) (o := .cells #[.bool false, .int .i64 0, .int .i64 0, .int .i64 0] 32 (0, 0)) (bk_ BK222.out)) (below_size (hd_ HB.out GE221.out GE222.out))); have n1_ := Aside0.mk (blk_below (bk_ BK221.out) hb); have n2_ := Aside0.mk (blk_below (bk_ BK222.out) hb); have n3_ := Aside0.mk (below_step (hd_ HB.out GE221.out GE222.out) hb); clear BK221; clear BK222; clear HB; have HO225 := n0_; have BK221 := n1_; have BK222 := n2_; have HB := n3_; clear n0_ n1_ n2_ n3_; (try clear hb); (try clear hb2); (try clear hk); (try clear hi); (try clear ho0); obtain ⟨Ao10, co10, eo10⟩ := Kd.R_slice HO225.out; subst eo10; obtain ⟨hcz11_0, hcz11_1, hcz11_2, hcz11_3, hfz11_0, hfz11_1, hfz11_2, hfz11_3⟩ := bc4_ BK222.out)))
  refine bodyPost_ret (results_ct rfl _ _ gb222 32 #[.bool false, .int .i64 0, .int .i64 0, .int .i64 0] (0, 0) _ rfl (by refine bk_ ?_; refine blk_put (cs := #[.bool false, .int .i64 0, .int .i64 0, .int .i64 0]) ?_ 3 _ rfl; refine bk_ ?_; refine blk_put (cs := #[.bool false, .int .i64 0, .int .i64 0, .int .i64 0]) ?_ 2 _ rfl; refine bk_ ?_; refine blk_put (cs := #[.bool false, .int .i64 0, .int .i64 0, .int .i64 0]) ?_ 1 _ rfl; refine bk_ ?_; refine blk_put (cs := #[.bool false, .int .i64 0, .int .i64 0, .int .i64 0]) ?_ 0 _ rfl; refine bk_ ?_; exact BK222.out) Try.underlying32 rfl (by kernel_rfl)) rfl ?_
  exact ⟨pe_, hd_ HB.out GE221.out GE222.out⟩
 ·rw [if_neg c4] at H
  have c4b0 : ((t223.length : Int) == 0) = false := beq_eq_false_iff_ne.mpr c4
  have c4b1 : ((t223.length : Int) != 0) = true := bne_iff_ne.mpr c4
  have c4b2 : ¬ (t223 = []) := fun h_ => c4 (by rw [h_]; rfl)
  by_cases c12 : 0 < (t223.length : Int)
  ·rw [if_pos c12] at H
   have c12b0 : decide (0 < (t223.length : Int)) = true := decide_eq_true c12
   have c12b1 : decide (0 < t223.length) = true := decide_eq_true (by omega)
   clear c12
   have H' := Aside0.mk H
   clear H
   go_enter Try.func58, Try.ntmps58
   go_wp2_with (first | ((with_reducible refine gate_dst (N := 2) rfl ?_); refine box_event ?hg (N := 2) ?hd (cs := #[.bool a0_0, .int .i64 a0_1, .int .i64 a0_2, .int .i64 a0_3]) (t := 32) ?hr ?_; (case hd => rfl); (case hg => rfl); (case hr => first | (go_simp; done) | (go_simp; rfl)); intro gb221 hg w13 hbox hb; have n0_ := Aside0.mk (below_step (hb_ HB.out) hb); have n1_ := Aside0.mk (hbox); have n2_ := bg_ hg (below_size (hb_ HB.out)); have n3_ := bg_ hg (below_size (hb_ HB.out)); clear HB; have HB := n0_; have BK221 := n1_; have GW221 := n2_; have GE221 := n3_; clear n0_ n1_ n2_ n3_; clear hb hbox hg) | ((with_reducible refine gate_dst (N := 4) rfl ?_); refine box_event ?hg (N := 4) ?hd (cs := #[.bool false, .int .i64 0, .int .i64 0, .int .i64 0]) (t := 32) ?hr ?_; (case hd => rfl); (case hg => rfl); (case hr => first | (go_simp; done) | (go_simp; rfl)); intro gb222 hg w14 hbox hb; have n0_ := Aside0.mk (blk_below (bk_ BK221.out) hb); have n1_ := Aside0.mk (below_step (hc_ HB.out GE221.out) hb); have n2_ := Aside0.mk (hbox); have n3_ := bg_ hg (below_size (hc_ HB.out GE221.out)); have n4_ := bg_ hg (below_size (hc_ HB.out GE221.out)); have n5_ := bn_ hg (blk_lt (bk_ BK221.out)); have n6_ := bm_ hg (blk_lt (bk_ BK221.out)); clear BK221; clear HB; have BK221 := n0_; have HB := n1_; have BK222 := n2_; have GW222 := n3_; have GE222 := n4_; have NB221_222 := n5_; have NB222_221 := n6_; clear n0_ n1_ n2_ n3_ n4_ n5_ n6_; clear hb hbox hg; have hnb15 := NB221_222.out; have hnc15 := NB222_221.out; obtain ⟨hcz16_0, hcz16_1, hcz16_2, hcz16_3, hfz16_0, hfz16_1, hfz16_2, hfz16_3⟩ := bc4_ BK221.out) | (go_at_call 111; (with_reducible refine (spec_Without.calls k a0_0 a0_1 a0_2 a0_3 _ _ l1 t223 _ ?side1 ?side2 A3.out).mono ?_); (case side1 => repeat (first | exact (Kd.C_below HR1.out HB.out) | (with_reducible refine Kd.C_alloc ?_ _) | (with_reducible refine Kd.C_drewN ?_ _) | (with_reducible refine Kd.C_drew ?_))); (case side2 => exact HC1.out); rintro e w17 ⟨v224, rfl, ho0, hb⟩; have n0_ := Aside0.mk (Kd.R_lower (Kd.R_newB (Kd.R_newB ho0 (g := gb221) (o := .cells #[.bool a0_0, .int .i64 a0_1, .int .i64 a0_2, .int .i64 a0_3] 32 (0, 0)) (bk_ BK221.out)) (g := gb222) (o := .cells #[.bool false, .int .i64 0, .int .i64 0, .int .i64 0] 32 (0, 0)) (bk_ BK222.out)) (below_size (hd_ HB.out GE221.out GE222.out))); have n1_ := Aside0.mk (blk_below (bk_ BK221.out) hb); have n2_ := Aside0.mk (blk_below (bk_ BK222.out) hb); have n3_ := Aside0.mk (below_step (hd_ HB.out GE221.out GE222.out) hb); clear BK221; clear BK222; clear HB; have HO225 := n0_; have BK221 := n1_; have BK222 := n2_; have HB := n3_; clear n0_ n1_ n2_ n3_; (try clear hb); (try clear hb2); (try clear hk); (try clear hi); (try clear ho0); obtain ⟨Ao18, co18, eo18⟩ := Kd.R_slice HO225.out; subst eo18; have p226 : 0 ≤ (0 : Int) := (by omega); have q226 : 0 < (t223.length : Int) := of_decide_eq_true pa_; obtain ⟨ad226, e226, hx226_0, hx226_1, hx226_2, hx226_3⟩ := at_T32 (Kd.R_reads' HO225.out).2.2 0 p226 q226; cases e226; have qi226 : (0 < t223.length) = True := eq_true (by omega); (try rw [show ((0 : Int)).toNat = 0 from rfl] at hx226_0); (try rw [show 0 * 4 = 0 from rfl] at hx226_0); (try rw [Addr.add_zero'] at hx226_0); (try rw [show ((0 : Int)).toNat = 0 from rfl] at hx226_1); (try rw [show 0 * 4 = 0 from rfl] at hx226_1); (try rw [Addr.add_zero'] at hx226_1); (try rw [show ((0 : Int)).toNat = 0 from rfl] at hx226_2); (try rw [show 0 * 4 = 0 from rfl] at hx226_2); (try rw [Addr.add_zero'] at hx226_2); (try rw [show ((0 : Int)).toNat = 0 from rfl] at hx226_3); (try rw [show 0 * 4 = 0 from rfl] at hx226_3); (try rw [Addr.add_zero'] at hx226_3); replace p226 := eq_true p226; replace q226 := eq_true q226) | ((with_reducible refine gate_dst (N := 7) rfl ?_); refine box_event ?hg (N := 7) ?hd (cs := #[.bool false, .int .i64 0, .int .i64 0, .int .i64 0]) (t := 32) ?hr ?_; (case hd => rfl); (case hg => rfl); (case hr => first | (go_simp; done) | (go_simp; rfl)); intro gb227 hg w19 hbox hb; have n0_ := Aside0.mk (Kd.R_below (Kd.R_elderB (by (with_reducible repeat (first | apply Kd.R_alloc | apply Kd.R_drewN | apply Kd.R_drew)); exact HO225.out) gb227 (Nat.le_of_eq hg.symm)) hb); have n1_ := Aside0.mk (blk_below (bk_ BK221.out) hb); have n2_ := Aside0.mk (blk_below (bk_ BK222.out) hb); have n3_ := Aside0.mk (below_step (hd_ HB.out GE221.out GE222.out) hb); have n4_ := Aside0.mk (hbox); have n5_ := bg_ hg (below_size (hd_ HB.out GE221.out GE222.out)); have n6_ := bg_ hg (below_size (hd_ HB.out GE221.out GE222.out)); have n7_ := bn_ hg (blk_lt (bk_ BK221.out)); have n8_ := bm_ hg (blk_lt (bk_ BK221.out)); have n9_ := bn_ hg (blk_lt (bk_ BK222.out)); have n10_ := bm_ hg (blk_lt (bk_ BK222.out)); clear HO225; clear BK221; clear BK222; clear HB; have HO225 := n0_; have BK221 := n1_; have BK222 := n2_; have HB := n3_; have BK227 := n4_; have GW227 := n5_; have GE227 := n6_; have NB221_227 := n7_; have NB227_221 := n8_; have NB222_227 := n9_; have NB227_222 := n10_; clear n0_ n1_ n2_ n3_ n4_ n5_ n6_ n7_ n8_ n9_ n10_; clear hb hbox hg; have hnb20 := NB227_221.out; have hnc20 := NB221_227.out; have hnb21 := NB227_222.out; have hnc21 := NB222_227.out; obtain ⟨hcz22_0, hcz22_1, hcz22_2, hcz22_3, hfz22_0, hfz22_1, hfz22_2, hfz22_3⟩ := bc4_ BK227.out))
   repeat (go_quiet (first | ((with_reducible refine gate_dst (N := 2) rfl ?_); refine box_event ?hg (N := 2) ?hd (cs := #[.bool a0_0, .int .i64 a0_1, .int .i64 a0_2, .int .i64 a0_3]) (t := 32) ?hr ?_; (case hd => rfl); (case hg => rfl); (case hr => first | (go_simp; done) | (go_simp; rfl)); intro gb221 hg w13 hbox hb; have n0_ := Aside0.mk (below_step (hb_ HB.out) hb); have n1_ := Aside0.mk (hbox); have n2_ := bg_ hg (below_size (hb_ HB.out)); have n3_ := bg_ hg (below_size (hb_ HB.out)); clear HB; have HB := n0_; have BK221 := n1_; have GW221 := n2_; have GE221 := n3_; clear n0_ n1_ n2_ n3_; clear hb hbox hg) | ((with_reducible refine gate_dst (N := 4) rfl ?_); refine box_event ?hg (N := 4) ?hd (cs := #[.bool false, .int .i64 0, .int .i64 0, .int .i64 0]) (t := 32) ?hr ?_; (case hd => rfl); (case hg => rfl); (case hr => first | (go_simp; done) | (go_simp; rfl)); intro gb222 hg w14 hbox hb; have n0_ := Aside0.mk (blk_below (bk_ BK221.out) hb); have n1_ := Aside0.mk (below_step (hc_ HB.out GE221.out) hb); have n2_ := Aside0.mk (hbox); have n3_ := bg_ hg (below_size (hc_ HB.out GE221.out)); have n4_ := bg_ hg (below_size (hc_ HB.out GE221.out)); have n5_ := bn_ hg (blk_lt (bk_ BK221.out)); have n6_ := bm_ hg (blk_lt (bk_ BK221.out)); clear BK221; clear HB; have BK221 := n0_; have HB := n1_; have BK222 := n2_; have GW222 := n3_; have GE222 := n4_; have NB221_222 := n5_; have NB222_221 := n6_; clear n0_ n1_ n2_ n3_ n4_ n5_ n6_; clear hb hbox hg; have hnb15 := NB221_222.out; have hnc15 := NB222_221.out; obtain ⟨hcz16_0, hcz16_1, hcz16_2, hcz16_3, hfz16_0, hfz16_1, hfz16_2, hfz16_3⟩ := bc4_ BK221.out) | (go_at_call 111; (with_reducible refine (spec_Without.calls k a0_0 a0_1 a0_2 a0_3 _ _ l1 t223 _ ?side1 ?side2 A3.out).mono ?_); (case side1 => repeat (first | exact (Kd.C_below HR1.out HB.out) | (with_reducible refine Kd.C_alloc ?_ _) | (with_reducible refine Kd.C_drewN ?_ _) | (with_reducible refine Kd.C_drew ?_))); (case side2 => exact HC1.out); rintro e w17 ⟨v224, rfl, ho0, hb⟩; have n0_ := Aside0.mk (Kd.R_lower (Kd.R_newB (Kd.R_newB ho0 (g := gb221) (o := .cells #[.bool a0_0, .int .i64 a0_1, .int .i64 a0_2, .int .i64 a0_3] 32 (0, 0)) (bk_ BK221.out)) (g := gb222) (o := .cells #[.bool false, .int .i64 0, .int .i64 0, .int .i64 0] 32 (0, 0)) (bk_ BK222.out)) (below_size (hd_ HB.out GE221.out GE222.out))); have n1_ := Aside0.mk (blk_below (bk_ BK221.out) hb); have n2_ := Aside0.mk (blk_below (bk_ BK222.out) hb); have n3_ := Aside0.mk (below_step (hd_ HB.out GE221.out GE222.out) hb); clear BK221; clear BK222; clear HB; have HO225 := n0_; have BK221 := n1_; have BK222 := n2_; have HB := n3_; clear n0_ n1_ n2_ n3_; (try clear hb); (try clear hb2); (try clear hk); (try clear hi); (try clear ho0); obtain ⟨Ao18, co18, eo18⟩ := Kd.R_slice HO225.out; subst eo18; have p226 : 0 ≤ (0 : Int) := (by omega); have q226 : 0 < (t223.length : Int) := of_decide_eq_true pa_; obtain ⟨ad226, e226, hx226_0, hx226_1, hx226_2, hx226_3⟩ := at_T32 (Kd.R_reads' HO225.out).2.2 0 p226 q226; cases e226; have qi226 : (0 < t223.length) = True := eq_true (by omega); (try rw [show ((0 : Int)).toNat = 0 from rfl] at hx226_0); (try rw [show 0 * 4 = 0 from rfl] at hx226_0); (try rw [Addr.add_zero'] at hx226_0); (try rw [show ((0 : Int)).toNat = 0 from rfl] at hx226_1); (try rw [show 0 * 4 = 0 from rfl] at hx226_1); (try rw [Addr.add_zero'] at hx226_1); (try rw [show ((0 : Int)).toNat = 0 from rfl] at hx226_2); (try rw [show 0 * 4 = 0 from rfl] at hx226_2); (try rw [Addr.add_zero'] at hx226_2); (try rw [show ((0 : Int)).toNat = 0 from rfl] at hx226_3); (try rw [show 0 * 4 = 0 from rfl] at hx226_3); (try rw [Addr.add_zero'] at hx226_3); replace p226 := eq_true p226; replace q226 := eq_true q226) | ((with_reducible refine gate_dst (N := 7) rfl ?_); refine box_event ?hg (N := 7) ?hd (cs := #[.bool false, .int .i64 0, .int .i64 0, .int .i64 0]) (t := 32) ?hr ?_; (case hd => rfl); (case hg => rfl); (case hr => first | (go_simp; done) | (go_simp; rfl)); intro gb227 hg w19 hbox hb; have n0_ := Aside0.mk (Kd.R_below (Kd.R_elderB (by (with_reducible repeat (first | apply Kd.R_alloc | apply Kd.R_drewN | apply Kd.R_drew)); exact HO225.out) gb227 (Nat.le_of_eq hg.symm)) hb); have n1_ := Aside0.mk (blk_below (bk_ BK221.out) hb); have n2_ := Aside0.mk (blk_below (bk_ BK222.out) hb); have n3_ := Aside0.mk (below_step (hd_ HB.out GE221.out GE222.out) hb); have n4_ := Aside0.mk (hbox); have n5_ := bg_ hg (below_size (hd_ HB.out GE221.out GE222.out)); have n6_ := bg_ hg (below_size (hd_ HB.out GE221.out GE222.out)); have n7_ := bn_ hg (blk_lt (bk_ BK221.out)); have n8_ := bm_ hg (blk_lt (bk_ BK221.out)); have n9_ := bn_ hg (blk_lt (bk_ BK222.out)); have n10_ := bm_ hg (blk_lt (bk_ BK222.out)); clear HO225; clear BK221; clear BK222; clear HB; have HO225 := n0_; have BK221 := n1_; have BK222 := n2_; have HB := n3_; have BK227 := n4_; have GW227 := n5_; have GE227 := n6_; have NB221_227 := n7_; have NB227_221 := n8_; have NB222_227 := n9_; have NB227_222 := n10_; clear n0_ n1_ n2_ n3_ n4_ n5_ n6_ n7_ n8_ n9_ n10_; clear hb hbox hg; have hnb20 := NB227_221.out; have hnc20 := NB221_227.out; have hnb21 := NB227_222.out; have hnc21 := NB222_227.out; obtain ⟨hcz22_0, hcz22_1, hcz22_2, hcz22_3, hfz22_0, hfz22_1, hfz22_2, hfz22_3⟩ := bc4_ BK227.out)); try go_wp2_with (first | ((with_reducible refine gate_dst (N := 2) rfl ?_); refine box_event ?hg (N := 2) ?hd (cs := #[.bool a0_0, .int .i64 a0_1, .int .i64 a0_2, .int .i64 a0_3]) (t := 32) ?hr ?_; (case hd => rfl); (case hg => rfl); (case hr => first | (go_simp; done) | (go_simp; rfl)); intro gb221 hg w13 hbox hb; have n0_ := Aside0.mk (below_step (hb_ HB.out) hb); have n1_ := Aside0.mk (hbox); have n2_ := bg_ hg (below_size (hb_ HB.out)); have n3_ := bg_ hg (below_size (hb_ HB.out)); clear HB; have HB := n0_; have BK221 := n1_; have GW221 := n2_; have GE221 := n3_; clear n0_ n1_ n2_ n3_; clear hb hbox hg) | ((with_reducible refine gate_dst (N := 4) rfl ?_); refine box_event ?hg (N := 4) ?hd (cs := #[.bool false, .int .i64 0, .int .i64 0, .int .i64 0]) (t := 32) ?hr ?_; (case hd => rfl); (case hg => rfl); (case hr => first | (go_simp; done) | (go_simp; rfl)); intro gb222 hg w14 hbox hb; have n0_ := Aside0.mk (blk_below (bk_ BK221.out) hb); have n1_ := Aside0.mk (below_step (hc_ HB.out GE221.out) hb); have n2_ := Aside0.mk (hbox); have n3_ := bg_ hg (below_size (hc_ HB.out GE221.out)); have n4_ := bg_ hg (below_size (hc_ HB.out GE221.out)); have n5_ := bn_ hg (blk_lt (bk_ BK221.out)); have n6_ := bm_ hg (blk_lt (bk_ BK221.out)); clear BK221; clear HB; have BK221 := n0_; have HB := n1_; have BK222 := n2_; have GW222 := n3_; have GE222 := n4_; have NB221_222 := n5_; have NB222_221 := n6_; clear n0_ n1_ n2_ n3_ n4_ n5_ n6_; clear hb hbox hg; have hnb15 := NB221_222.out; have hnc15 := NB222_221.out; obtain ⟨hcz16_0, hcz16_1, hcz16_2, hcz16_3, hfz16_0, hfz16_1, hfz16_2, hfz16_3⟩ := bc4_ BK221.out) | (go_at_call 111; (with_reducible refine (spec_Without.calls k a0_0 a0_1 a0_2 a0_3 _ _ l1 t223 _ ?side1 ?side2 A3.out).mono ?_); (case side1 => repeat (first | exact (Kd.C_below HR1.out HB.out) | (with_reducible refine Kd.C_alloc ?_ _) | (with_reducible refine Kd.C_drewN ?_ _) | (with_reducible refine Kd.C_drew ?_))); (case side2 => exact HC1.out); rintro e w17 ⟨v224, rfl, ho0, hb⟩; have n0_ := Aside0.mk (Kd.R_lower (Kd.R_newB (Kd.R_newB ho0 (g := gb221) (o := .cells #[.bool a0_0, .int .i64 a0_1, .int .i64 a0_2, .int .i64 a0_3] 32 (0, 0)) (bk_ BK221.out)) (g := gb222) (o := .cells #[.bool false, .int .i64 0, .int .i64 0, .int .i64 0] 32 (0, 0)) (bk_ BK222.out)) (below_size (hd_ HB.out GE221.out GE222.out))); have n1_ := Aside0.mk (blk_below (bk_ BK221.out) hb); have n2_ := Aside0.mk (blk_below (bk_ BK222.out) hb); have n3_ := Aside0.mk (below_step (hd_ HB.out GE221.out GE222.out) hb); clear BK221; clear BK222; clear HB; have HO225 := n0_; have BK221 := n1_; have BK222 := n2_; have HB := n3_; clear n0_ n1_ n2_ n3_; (try clear hb); (try clear hb2); (try clear hk); (try clear hi); (try clear ho0); obtain ⟨Ao18, co18, eo18⟩ := Kd.R_slice HO225.out; subst eo18; have p226 : 0 ≤ (0 : Int) := (by omega); have q226 : 0 < (t223.length : Int) := of_decide_eq_true pa_; obtain ⟨ad226, e226, hx226_0, hx226_1, hx226_2, hx226_3⟩ := at_T32 (Kd.R_reads' HO225.out).2.2 0 p226 q226; cases e226; have qi226 : (0 < t223.length) = True := eq_true (by omega); (try rw [show ((0 : Int)).toNat = 0 from rfl] at hx226_0); (try rw [show 0 * 4 = 0 from rfl] at hx226_0); (try rw [Addr.add_zero'] at hx226_0); (try rw [show ((0 : Int)).toNat = 0 from rfl] at hx226_1); (try rw [show 0 * 4 = 0 from rfl] at hx226_1); (try rw [Addr.add_zero'] at hx226_1); (try rw [show ((0 : Int)).toNat = 0 from rfl] at hx226_2); (try rw [show 0 * 4 = 0 from rfl] at hx226_2); (try rw [Addr.add_zero'] at hx226_2); (try rw [show ((0 : Int)).toNat = 0 from rfl] at hx226_3); (try rw [show 0 * 4 = 0 from rfl] at hx226_3); (try rw [Addr.add_zero'] at hx226_3); replace p226 := eq_true p226; replace q226 := eq_true q226) | ((with_reducible refine gate_dst (N := 7) rfl ?_); refine box_event ?hg (N := 7) ?hd (cs := #[.bool false, .int .i64 0, .int .i64 0, .int .i64 0]) (t := 32) ?hr ?_; (case hd => rfl); (case hg => rfl); (case hr => first | (go_simp; done) | (go_simp; rfl)); intro gb227 hg w19 hbox hb; have n0_ := Aside0.mk (Kd.R_below (Kd.R_elderB (by (with_reducible repeat (first | apply Kd.R_alloc | apply Kd.R_drewN | apply Kd.R_drew)); exact HO225.out) gb227 (Nat.le_of_eq hg.symm)) hb); have n1_ := Aside0.mk (blk_below (bk_ BK221.out) hb); have n2_ := Aside0.mk (blk_below (bk_ BK222.out) hb); have n3_ := Aside0.mk (below_step (hd_ HB.out GE221.out GE222.out) hb); have n4_ := Aside0.mk (hbox); have n5_ := bg_ hg (below_size (hd_ HB.out GE221.out GE222.out)); have n6_ := bg_ hg (below_size (hd_ HB.out GE221.out GE222.out)); have n7_ := bn_ hg (blk_lt (bk_ BK221.out)); have n8_ := bm_ hg (blk_lt (bk_ BK221.out)); have n9_ := bn_ hg (blk_lt (bk_ BK222.out)); have n10_ := bm_ hg (blk_lt (bk_ BK222.out)); clear HO225; clear BK221; clear BK222; clear HB; have HO225 := n0_; have BK221 := n1_; have BK222 := n2_; have HB := n3_; have BK227 := n4_; have GW227 := n5_; have GE227 := n6_; have NB221_227 := n7_; have NB227_221 := n8_; have NB222_227 := n9_; have NB227_222 := n10_; clear n0_ n1_ n2_ n3_ n4_ n5_ n6_ n7_ n8_ n9_ n10_; clear hb hbox hg; have hnb20 := NB227_221.out; have hnc20 := NB221_227.out; have hnb21 := NB227_222.out; have hnc21 := NB222_227.out; obtain ⟨hcz22_0, hcz22_1, hcz22_2, hcz22_3, hfz22_0, hfz22_1, hfz22_2, hfz22_3⟩ := bc4_ BK227.out)))
   go_loopg [8] k (fun kq v8 w' => ∃ (x8_1 : Int) (x228000_1 : Bool) (x228001_1 : Int) (x228002_1 : Int) (x228003_1 : Int), v8 = .int .i64 x8_1 ∧ Aside0 (spec_Largest.l0 kq t223 x8_1 x228000_1 x228001_1 x228002_1 x228003_1 = some (r1, r2, r3, r4, r5)) ∧ Aside0 (kq ≤ k) ∧ Aside0 (Kd.R k32 32 w' w.heap.size (fun k_ => k_ ≠ gb221 ∧ k_ ≠ gb222 ∧ k_ ≠ gb227) (.slice (some ad226) t223.length co18) t223) ∧ Aside0 (w'.heap[gb221]? = some (.cells #[.bool a0_0, .int .i64 a0_1, .int .i64 a0_2, .int .i64 a0_3] 32 (0, 0))) ∧ Aside0 (w'.heap[gb222]? = some (.cells #[.bool false, .int .i64 0, .int .i64 0, .int .i64 0] 32 (0, 0))) ∧ Aside0 (w'.heap[gb227]? = some (.cells #[.bool x228000_1, .int .i64 x228001_1, .int .i64 x228002_1, .int .i64 x228003_1] 32 (0, 0))) ∧ Aside0 (Below w.heap.size w w'))
   case atStart => exact ⟨(1), ((rd_T32 t223 0).f0.f0), ((rd_T32 t223 0).f0.f1), ((rd_T32 t223 0).f0.f2), ((rd_T32 t223 0).f1), (by first | rfl | (simp; done) | (simp [*]; done)), H', ⟨Nat.le_refl _⟩, ⟨by (with_reducible repeat (first | apply Kd.R_alloc | apply Kd.R_drewN | apply Kd.R_drew)); exact Kd.R_mono (Kd.R_far (p := ⟨gb227, 3, none⟩) (Kd.R_far (p := ⟨gb227, 2, none⟩) (Kd.R_far (p := ⟨gb227, 1, none⟩) (Kd.R_far (p := ⟨gb227, 0, none⟩) (Kd.R_mono HO225.out (fun k_ hk => (⟨hk, hk.2⟩ : _ ∧ k_ ≠ gb227))) (fun _ hk => hk.2) (.bool ((rd_T32 t223 0).f0.f0))) (fun _ hk => hk.2) (.int .i64 ((rd_T32 t223 0).f0.f1))) (fun _ hk => hk.2) (.int .i64 ((rd_T32 t223 0).f0.f2))) (fun _ hk => hk.2) (.int .i64 ((rd_T32 t223 0).f1))) (fun _ hk => ⟨hk.1.1.1.2, ⟨hk.1.1.2, hk.1.2⟩⟩)⟩, ⟨by refine bk_ ?_; refine blk_far ?_ NB221_227.out _; refine bk_ ?_; refine blk_far ?_ NB221_227.out _; refine bk_ ?_; refine blk_far ?_ NB221_227.out _; refine bk_ ?_; refine blk_far ?_ NB221_227.out _; refine bk_ ?_; exact BK221.out⟩, ⟨by refine bk_ ?_; refine blk_far ?_ NB222_227.out _; refine bk_ ?_; refine blk_far ?_ NB222_227.out _; refine bk_ ?_; refine blk_far ?_ NB222_227.out _; refine bk_ ?_; refine blk_far ?_ NB222_227.out _; refine bk_ ?_; exact BK222.out⟩, ⟨by refine bk_ ?_; refine blk_put (cs := #[.bool ((rd_T32 t223 0).f0.f0), .int .i64 ((rd_T32 t223 0).f0.f1), .int .i64 ((rd_T32 t223 0).f0.f2), .int .i64 0]) ?_ 3 _ rfl; refine bk_ ?_; refine blk_put (cs := #[.bool ((rd_T32 t223 0).f0.f0), .int .i64 ((rd_T32 t223 0).f0.f1), .int .i64 0, .int .i64 0]) ?_ 2 _ rfl; refine bk_ ?_; refine blk_put (cs := #[.bool ((rd_T32 t223 0).f0.f0), .int .i64 0, .int .i64 0, .int .i64 0]) ?_ 1 _ rfl; refine bk_ ?_; refine blk_put (cs := #[.bool false, .int .i64 0, .int .i64 0, .int .i64 0]) ?_ 0 _ rfl; refine bk_ ?_; exact BK227.out⟩, ⟨by repeat (first | (with_reducible first | exact HB.out | apply below_alloc | apply pw_below_drewN | apply below_drew1 | refine below_set ?_ GE221.out | refine below_set ?_ GE222.out | refine below_set ?_ GE227.out) | exact HB.out)⟩⟩
   case round =>
    clear H'
    try clear c1
    try clear c2
    try clear p2
    try clear q2
    try clear hx2
    try clear qi2
    try clear c4
    try clear c4b0
    try clear c4b1
    try clear c4b2
    try clear c5
    try clear c7
    try clear c12
    try clear c12b0
    try clear c12b1
    try clear c15
    try clear c20
    try clear c21
    try clear p22
    try clear q22
    try clear hx22
    try clear qi22
    try clear hcz11_0
    try clear hcz11_1
    try clear hcz11_2
    try clear hcz11_3
    try clear hcz16_0
    try clear hcz16_1
    try clear hcz16_2
    try clear hcz16_3
    try clear hcz22_0
    try clear hcz22_1
    try clear hcz22_2
    try clear hcz22_3
    try clear hcz8_0
    try clear hcz8_1
    try clear hcz8_2
    try clear hcz8_3
    try clear hfz11_0
    try clear hfz11_1
    try clear hfz11_2
    try clear hfz11_3
    try clear hfz16_0
    try clear hfz16_1
    try clear hfz16_2
    try clear hfz16_3
    try clear hfz22_0
    try clear hfz22_1
    try clear hfz22_2
    try clear hfz22_3
    try clear hfz8_0
    try clear hfz8_1
    try clear hfz8_2
    try clear hfz8_3
    try clear hx226_0
    try clear hx226_1
    try clear hx226_2
    try clear hx226_3
    try clear p226
    try clear q226
    obtain ⟨x8_1, x228000_1, x228001_1, x228002_1, x228003_1, rfl, HA, HK1, HO_6, BK221, BK222, BK227, HB⟩ := hrel
    cases gk with
    | zero => exact absurd HA.out (by simp [spec_Largest.l0])
    | succ k1 =>
     have H := HA.out
     clear HA
     simp only [spec_Largest.l0] at H
     by_cases c23 : x8_1 < (t223.length : Int)
     ·rw [if_pos c23] at H
      have c23b0 : decide (x8_1 < (t223.length : Int)) = true := decide_eq_true c23
      clear c23
      by_cases c24 : 0 ≤ x8_1
      ·rw [if_pos c24] at H
       have c24b0 : decide (0 ≤ x8_1) = true := decide_eq_true c24
       clear c24
       by_cases c25 : ((rd_T32 t223 x8_1).f1) < x228003_1
       ·rw [if_pos c25] at H
        have c25b0 : decide (((rd_T32 t223 x8_1).f1) < x228003_1) = true := decide_eq_true c25
        clear c25
        have H' := Aside0.mk H
        clear H
        have p228 : 0 ≤ (x8_1 : Int) := of_decide_eq_true pa_
        have q228 : x8_1 < (t223.length : Int) := of_decide_eq_true pa_
        obtain ⟨ad228, e228, hx228_0, hx228_1, hx228_2, hx228_3⟩ := at_T32 (Kd.R_reads' HO_6.out).2.2 x8_1 p228 q228
        obtain rfl : ad226 = ad228 := (by injection e228)
        replace p228 := eq_true p228
        replace q228 := eq_true q228
        have hnb26 := NB227_221.out
        have hnc26 := NB221_227.out
        have hnb27 := NB227_222.out
        have hnc27 := NB222_227.out
        obtain ⟨hcz28_0, hcz28_1, hcz28_2, hcz28_3, hfz28_0, hfz28_1, hfz28_2, hfz28_3⟩ := bc4_ BK227.out
        have p229 : 0 ≤ (x8_1 : Int) := of_decide_eq_true pa_
        have q229 : x8_1 < (t223.length : Int) := of_decide_eq_true pa_
        obtain ⟨ad229, e229, hx229_0, hx229_1, hx229_2, hx229_3⟩ := at_T32 (Kd.R_reads' HO_6.out).2.2 x8_1 p229 q229
        obtain rfl : ad226 = ad229 := (by injection e229)
        replace p229 := eq_true p229
        replace q229 := eq_true q229
        go_wp2
        repeat (go_quiet (fail); try go_wp2)
        go_roundg k1
        case measure => have := HK1.out; omega
        case rel => exact ⟨(wrap64 (x8_1 + 1)), ((rd_T32 t223 x8_1).f0.f0), ((rd_T32 t223 x8_1).f0.f1), ((rd_T32 t223 x8_1).f0.f2), ((rd_T32 t223 x8_1).f1), (by first | rfl | (simp; done) | (simp [*]; done)), H', ⟨by have := HK1.out; omega⟩, ⟨by (with_reducible repeat (first | apply Kd.R_alloc | apply Kd.R_drewN | apply Kd.R_drew)); exact Kd.R_mono (Kd.R_far (p := ⟨gb227, 3, none⟩) (Kd.R_far (p := ⟨gb227, 2, none⟩) (Kd.R_far (p := ⟨gb227, 1, none⟩) (Kd.R_far (p := ⟨gb227, 0, none⟩) (Kd.R_mono HO_6.out (fun k_ hk => (⟨hk, hk.2.2⟩ : _ ∧ k_ ≠ gb227))) (fun _ hk => hk.2) (.bool ((rd_T32 t223 x8_1).f0.f0))) (fun _ hk => hk.2) (.int .i64 ((rd_T32 t223 x8_1).f0.f1))) (fun _ hk => hk.2) (.int .i64 ((rd_T32 t223 x8_1).f0.f2))) (fun _ hk => hk.2) (.int .i64 ((rd_T32 t223 x8_1).f1))) (fun _ hk => ⟨hk.1.1, ⟨hk.1.2.1, hk.1.2.2⟩⟩)⟩, ⟨by refine bk_ ?_; refine blk_far ?_ NB221_227.out _; refine bk_ ?_; refine blk_far ?_ NB221_227.out _; refine bk_ ?_; refine blk_far ?_ NB221_227.out _; refine bk_ ?_; refine blk_far ?_ NB221_227.out _; refine bk_ ?_; exact BK221.out⟩, ⟨by refine bk_ ?_; refine blk_far ?_ NB222_227.out _; refine bk_ ?_; refine blk_far ?_ NB222_227.out _; refine bk_ ?_; refine blk_far ?_ NB222_227.out _; refine bk_ ?_; refine blk_far ?_ NB222_227.out _; refine bk_ ?_; exact BK222.out⟩, ⟨by refine bk_ ?_; refine blk_put (cs := #[.bool ((rd_T32 t223 x8_1).f0.f0), .int .i64 ((rd_T32 t223 x8_1).f0.f1), .int .i64 ((rd_T32 t223 x8_1).f0.f2), .int .i64 x228003_1]) ?_ 3 _ rfl; refine bk_ ?_; refine blk_put (cs := #[.bool ((rd_T32 t223 x8_1).f0.f0), .int .i64 ((rd_T32 t223 x8_1).f0.f1), .int .i64 x228002_1, .int .i64 x228003_1]) ?_ 2 _ rfl; refine bk_ ?_; refine blk_put (cs := #[.bool ((rd_T32 t223 x8_1).f0.f0), .int .i64 x228001_1, .int .i64 x228002_1, .int .i64 x228003_1]) ?_ 1 _ rfl; refine bk_ ?_; refine blk_put (cs := #[.bool x228000_1, .int .i64 x228001_1, .int .i64 x228002_1, .int .i64 x228003_1]) ?_ 0 _ rfl; refine bk_ ?_; exact BK227.out⟩, ⟨by repeat (first | (with_reducible first | exact HB.out | apply below_alloc | apply pw_below_drewN | apply below_drew1 | refine below_set ?_ GE221.out | refine below_set ?_ GE222.out | refine below_set ?_ GE227.out) | exact HB.out)⟩⟩
       ·rw [if_neg c25] at H
        have c25b0 : decide (((rd_T32 t223 x8_1).f1) < x228003_1) = false := decide_eq_false c25
        clear c25
        have H' := Aside0.mk H
        clear H
        have p228 : 0 ≤ (x8_1 : Int) := of_decide_eq_true pa_
        have q228 : x8_1 < (t223.length : Int) := of_decide_eq_true pa_
        obtain ⟨ad228, e228, hx228_0, hx228_1, hx228_2, hx228_3⟩ := at_T32 (Kd.R_reads' HO_6.out).2.2 x8_1 p228 q228
        obtain rfl : ad226 = ad228 := (by injection e228)
        replace p228 := eq_true p228
        replace q228 := eq_true q228
        have hnb29 := NB227_221.out
        have hnc29 := NB221_227.out
        have hnb30 := NB227_222.out
        have hnc30 := NB222_227.out
        obtain ⟨hcz31_0, hcz31_1, hcz31_2, hcz31_3, hfz31_0, hfz31_1, hfz31_2, hfz31_3⟩ := bc4_ BK227.out
        go_wp2
        repeat (go_quiet (fail); try go_wp2)
        go_roundg k1
        case measure => have := HK1.out; omega
        case rel => exact ⟨(wrap64 (x8_1 + 1)), (x228000_1), (x228001_1), (x228002_1), (x228003_1), (by first | rfl | (simp; done) | (simp [*]; done)), H', ⟨by have := HK1.out; omega⟩, ⟨by (with_reducible repeat (first | apply Kd.R_alloc | apply Kd.R_drewN | apply Kd.R_drew)); exact HO_6.out⟩, ⟨by refine bk_ ?_; exact BK221.out⟩, ⟨by refine bk_ ?_; exact BK222.out⟩, ⟨by refine bk_ ?_; exact BK227.out⟩, ⟨by repeat (first | (with_reducible first | exact HB.out | apply below_alloc | apply pw_below_drewN | apply below_drew1 | refine below_set ?_ GE221.out | refine below_set ?_ GE222.out | refine below_set ?_ GE227.out) | exact HB.out)⟩⟩
      ·rw [if_neg c24] at H
       exact absurd H (by simp)
     ·rw [if_neg c23] at H
      have c23b0 : decide (x8_1 < (t223.length : Int)) = false := decide_eq_false c23
      clear c23
      simp only [Option.some.injEq, Prod.mk.injEq] at H
      obtain ⟨rfl, rfl, rfl, rfl, rfl⟩ := H
      have hnb32 := NB227_221.out
      have hnc32 := NB221_227.out
      have hnb33 := NB227_222.out
      have hnc33 := NB222_227.out
      obtain ⟨hcz34_0, hcz34_1, hcz34_2, hcz34_3, hfz34_0, hfz34_1, hfz34_2, hfz34_3⟩ := bc4_ BK227.out
      have hnb35 := NB222_221.out
      have hnc35 := NB221_222.out
      obtain ⟨hcz36_0, hcz36_1, hcz36_2, hcz36_3, hfz36_0, hfz36_1, hfz36_2, hfz36_3⟩ := bc4_ BK222.out
      go_wp2
      repeat (go_quiet (fail); try go_wp2)
      refine bodyPost_ret (results_ct rfl _ _ gb222 32 #[.bool x228000_1, .int .i64 x228001_1, .int .i64 x228002_1, .int .i64 x228003_1] (0, 0) _ rfl (by refine bk_ ?_; refine blk_put (cs := #[.bool x228000_1, .int .i64 x228001_1, .int .i64 x228002_1, .int .i64 0]) ?_ 3 _ rfl; refine bk_ ?_; refine blk_put (cs := #[.bool x228000_1, .int .i64 x228001_1, .int .i64 0, .int .i64 0]) ?_ 2 _ rfl; refine bk_ ?_; refine blk_put (cs := #[.bool x228000_1, .int .i64 0, .int .i64 0, .int .i64 0]) ?_ 1 _ rfl; refine bk_ ?_; refine blk_put (cs := #[.bool false, .int .i64 0, .int .i64 0, .int .i64 0]) ?_ 0 _ rfl; refine bk_ ?_; exact BK222.out) Try.underlying32 rfl (by kernel_rfl)) rfl ?_
      exact ⟨pe_, by repeat (first | (with_reducible first | exact HB.out | apply below_alloc | apply pw_below_drewN | apply below_drew1 | refine below_set ?_ GE221.out | refine below_set ?_ GE222.out | refine below_set ?_ GE227.out) | exact HB.out)⟩
  ·rw [if_neg c12] at H
   exact absurd H (by simp)

/-! ### impl_from: function 76 -/
def impl_from.f (a0 : Int) (a1 : Int) (a2 : Int) : Option (Bool) := if a0 ≥ a1 then (some (decide (a0 ≤ a2))) else (some false)
set_option maxHeartbeats 8000000 in
set_option maxRecDepth 100000 in
theorem impl_from.calls (a0 : Int) (a1 : Int) (a2 : Int) (r : Bool) (w : World) (h : impl_from.f a0 a1 a2 = some r) :
  Calls Try.prog 76 #[.int .i64 a0, .int .i64 a1, .int .i64 a2] w fun e w' => e = .returned (.bool r) ∧ Drawn0 w w' := by
 have H : (if a0 ≥ a1 then (some (decide (a0 ≤ a2))) else (some false)) = some r := h
 clear h
 by_cases c4 : a0 ≥ a1
 ·rw [if_pos c4] at H
  have c4b0 : decide (a1 ≤ a0) = true := decide_eq_true c4
  clear c4
  obtain rfl := Option.some.inj H
  go_enter Try.func76, Try.ntmps76
  go_wp2
  go_ret
  exact ⟨by first | rfl | (simp; done) | (simp [*]; done), by repeat (first | exact Drawn0.refl _ | apply Drawn0.step)⟩
 ·rw [if_neg c4] at H
  have c4b0 : decide (a1 ≤ a0) = false := decide_eq_false c4
  clear c4
  obtain rfl := Option.some.inj H
  go_enter Try.func76, Try.ntmps76
  go_wp2
  go_ret
  exact ⟨by first | rfl | (simp; done) | (simp [*]; done), by repeat (first | exact Drawn0.refl _ | apply Drawn0.step)⟩

/-! ### impl_AddrOk: function 72 -/
def impl_AddrOk.f (a0_0 : Bool) (a0_1 : Int) (a0_2 : Int) : Option (Bool) := if a0_0 = true then (some true) else (if a0_1 = 0 then ((impl_from.f a0_2 0 4294967295).bind fun t231 => (some t231)) else (some false))
set_option maxHeartbeats 8000000 in
set_option maxRecDepth 100000 in
theorem impl_AddrOk.calls (a0_0 : Bool) (a0_1 : Int) (a0_2 : Int) (r : Bool) (w : World) (h : impl_AddrOk.f a0_0 a0_1 a0_2 = some r) :
  Calls Try.prog 72 #[.agg #[.bool a0_0, .int .i64 a0_1, .int .i64 a0_2]] w fun e w' => e = .returned (.bool r) ∧ Below w.heap.size w w' := by
 have hu26 := Try.underlying26
 have HB := Aside0.mk (Below.refl w.heap.size w)
 have H : (if a0_0 = true then (some true) else (if a0_1 = 0 then ((impl_from.f a0_2 0 4294967295).bind fun t231 => (some t231)) else (some false))) = some r := h
 clear h
 by_cases c2 : a0_0 = true
 ·subst c2
  have H1 : (some true) = some r := by rw [if_pos rfl] at H; exact H
  clear H
  have H := H1
  clear H1
  obtain rfl := Option.some.inj H
  go_enter Try.func72, Try.ntmps72
  go_wp2_with (first | ((with_reducible refine gate_dst (N := 1) rfl ?_); refine box_event ?hg (N := 1) ?hd (cs := #[.bool true, .int .i64 a0_1, .int .i64 a0_2]) (t := 26) ?hr ?_; (case hd => rfl); (case hg => rfl); (case hr => first | (go_simp; done) | (go_simp; rfl)); intro gb230 hg w3 hbox hb; have n0_ := Aside0.mk (below_step (hb_ HB.out) hb); have n1_ := Aside0.mk (hbox); have n2_ := bg_ hg (below_size (hb_ HB.out)); have n3_ := bg_ hg (below_size (hb_ HB.out)); clear HB; have HB := n0_; have BK230 := n1_; have GW230 := n2_; have GE230 := n3_; clear n0_ n1_ n2_ n3_; clear hb hbox hg; obtain ⟨hcz4_0, hcz4_1, hcz4_2, hfz4_0, hfz4_1, hfz4_2⟩ := bc3_ BK230.out))
  go_ret
  exact ⟨pe_, hc_ HB.out GE230.out⟩
 ·replace c2 := Bool.eq_false_iff.mpr c2
  subst c2
  have H1 : (if a0_1 = 0 then ((impl_from.f a0_2 0 4294967295).bind fun t231 => (some t231)) else (some false)) = some r := by rw [if_neg (show ¬ (false = true) by decide)] at H; exact H
  clear H
  have H := H1
  clear H1
  by_cases c5 : a0_1 = 0
  ·rw [if_pos c5] at H
   have c5b0 : (a0_1 == 0) = true := beq_iff_eq.mpr c5
   have c5b1 : (a0_1 != 0) = false := bne_eq_false_iff_eq.mpr c5
   clear c5
   replace H := Option.bind_eq_some_iff.mp H
   obtain ⟨t231, A60, H⟩ := H
   replace H : (some t231) = some r := H
   have A6 := Aside0.mk A60
   clear A60
   obtain rfl := Option.some.inj H
   go_enter Try.func72, Try.ntmps72
   go_wp2_with (first | ((with_reducible refine gate_dst (N := 1) rfl ?_); refine box_event ?hg (N := 1) ?hd (cs := #[.bool false, .int .i64 a0_1, .int .i64 a0_2]) (t := 26) ?hr ?_; (case hd => rfl); (case hg => rfl); (case hr => first | (go_simp; done) | (go_simp; rfl)); intro gb230 hg w7 hbox hb; have n0_ := Aside0.mk (below_step (hb_ HB.out) hb); have n1_ := Aside0.mk (hbox); have n2_ := bg_ hg (below_size (hb_ HB.out)); have n3_ := bg_ hg (below_size (hb_ HB.out)); clear HB; have HB := n0_; have BK230 := n1_; have GW230 := n2_; have GE230 := n3_; clear n0_ n1_ n2_ n3_; clear hb hbox hg; obtain ⟨hcz8_0, hcz8_1, hcz8_2, hfz8_0, hfz8_1, hfz8_2⟩ := bc3_ BK230.out) | (go_at_call 76; (with_reducible refine (impl_from.calls a0_2 0 4294967295 t231 _ A6.out).mono ?_); rintro e w' ⟨rfl, ⟨nd, rfl⟩⟩))
   go_ret
   exact ⟨pe_, hc_ HB.out GE230.out⟩
  ·rw [if_neg c5] at H
   have c5b0 : (a0_1 == 0) = false := beq_eq_false_iff_ne.mpr c5
   have c5b1 : (a0_1 != 0) = true := bne_iff_ne.mpr c5
   obtain rfl := Option.some.inj H
   go_enter Try.func72, Try.ntmps72
   go_wp2_with (first | ((with_reducible refine gate_dst (N := 1) rfl ?_); refine box_event ?hg (N := 1) ?hd (cs := #[.bool false, .int .i64 a0_1, .int .i64 a0_2]) (t := 26) ?hr ?_; (case hd => rfl); (case hg => rfl); (case hr => first | (go_simp; done) | (go_simp; rfl)); intro gb230 hg w9 hbox hb; have n0_ := Aside0.mk (below_step (hb_ HB.out) hb); have n1_ := Aside0.mk (hbox); have n2_ := bg_ hg (below_size (hb_ HB.out)); have n3_ := bg_ hg (below_size (hb_ HB.out)); clear HB; have HB := n0_; have BK230 := n1_; have GW230 := n2_; have GE230 := n3_; clear n0_ n1_ n2_ n3_; clear hb hbox hg; obtain ⟨hcz10_0, hcz10_1, hcz10_2, hfz10_0, hfz10_1, hfz10_2⟩ := bc3_ BK230.out))
   go_ret
   exact ⟨pe_, hc_ HB.out GE230.out⟩

/-! ### impl_width: function 80 -/
def impl_width.f (a0_0 : Bool) (a0_1 : Int) (a0_2 : Int) : Option (Int) := if a0_0 = true then (some 128) else (some 32)
set_option maxHeartbeats 8000000 in
set_option maxRecDepth 100000 in
theorem impl_width.calls (a0_0 : Bool) (a0_1 : Int) (a0_2 : Int) (r : Int) (w : World) (h : impl_width.f a0_0 a0_1 a0_2 = some r) :
  Calls Try.prog 80 #[.agg #[.bool a0_0, .int .i64 a0_1, .int .i64 a0_2]] w fun e w' => e = .returned (.int .i64 r) ∧ Below w.heap.size w w' := by
 have hu26 := Try.underlying26
 have HB := Aside0.mk (Below.refl w.heap.size w)
 have H : (if a0_0 = true then (some 128) else (some 32)) = some r := h
 clear h
 by_cases c2 : a0_0 = true
 ·subst c2
  have H1 : (some 128) = some r := by rw [if_pos rfl] at H; exact H
  clear H
  have H := H1
  clear H1
  obtain rfl := Option.some.inj H
  go_enter Try.func80, Try.ntmps80
  go_wp2_with (first | ((with_reducible refine gate_dst (N := 1) rfl ?_); refine box_event ?hg (N := 1) ?hd (cs := #[.bool true, .int .i64 a0_1, .int .i64 a0_2]) (t := 26) ?hr ?_; (case hd => rfl); (case hg => rfl); (case hr => first | (go_simp; done) | (go_simp; rfl)); intro gb232 hg w3 hbox hb; have n0_ := Aside0.mk (below_step (hb_ HB.out) hb); have n1_ := Aside0.mk (hbox); have n2_ := bg_ hg (below_size (hb_ HB.out)); have n3_ := bg_ hg (below_size (hb_ HB.out)); clear HB; have HB := n0_; have BK232 := n1_; have GW232 := n2_; have GE232 := n3_; clear n0_ n1_ n2_ n3_; clear hb hbox hg; obtain ⟨hcz4_0, hcz4_1, hcz4_2, hfz4_0, hfz4_1, hfz4_2⟩ := bc3_ BK232.out))
  go_ret
  exact ⟨pe_, hc_ HB.out GE232.out⟩
 ·replace c2 := Bool.eq_false_iff.mpr c2
  subst c2
  have H1 : (some 32) = some r := by rw [if_neg (show ¬ (false = true) by decide)] at H; exact H
  clear H
  have H := H1
  clear H1
  obtain rfl := Option.some.inj H
  go_enter Try.func80, Try.ntmps80
  go_wp2_with (first | ((with_reducible refine gate_dst (N := 1) rfl ?_); refine box_event ?hg (N := 1) ?hd (cs := #[.bool false, .int .i64 a0_1, .int .i64 a0_2]) (t := 26) ?hr ?_; (case hd => rfl); (case hg => rfl); (case hr => first | (go_simp; done) | (go_simp; rfl)); intro gb232 hg w5 hbox hb; have n0_ := Aside0.mk (below_step (hb_ HB.out) hb); have n1_ := Aside0.mk (hbox); have n2_ := bg_ hg (below_size (hb_ HB.out)); have n3_ := bg_ hg (below_size (hb_ HB.out)); clear HB; have HB := n0_; have BK232 := n1_; have GW232 := n2_; have GE232 := n3_; clear n0_ n1_ n2_ n3_; clear hb hbox hg; obtain ⟨hcz6_0, hcz6_1, hcz6_2, hfz6_0, hfz6_1, hfz6_2⟩ := bc3_ BK232.out))
  go_ret
  exact ⟨pe_, hc_ HB.out GE232.out⟩

/-! ### impl_masked: function 115 -/
def impl_masked.f (a0_0 : Bool) (a0_1 : Int) (a0_2 : Int) (a1 : Int) (a2 : Bool) : Option (Bool × Int × Int) := if a0_0 = true then (if a1 < 64 then (if 0 ≤ a1 then (if a2 = true then (some (true, wrap64 (Go.bits .or .u64 (Go.bits .andNot .u64 (IntKind.u64.wrap (a0_1)) (shr .u64 18446744073709551615 a1)) (shr .u64 18446744073709551615 a1)), wrap64 (Go.bits .or .u64 (Go.bits .andNot .u64 (IntKind.u64.wrap (a0_2)) 18446744073709551615) 18446744073709551615))) else (some (true, wrap64 (Go.bits .andNot .u64 (IntKind.u64.wrap (a0_1)) (shr .u64 18446744073709551615 a1)), wrap64 (Go.bits .andNot .u64 (IntKind.u64.wrap (a0_2)) 18446744073709551615)))) else (none)) else (if 0 ≤ (wrap64 (a1 - 64)) then (if a2 = true then (some (true, wrap64 (Go.bits .or .u64 (Go.bits .andNot .u64 (IntKind.u64.wrap (a0_1)) 0) 0), wrap64 (Go.bits .or .u64 (Go.bits .andNot .u64 (IntKind.u64.wrap (a0_2)) (shr .u64 18446744073709551615 (wrap64 (a1 - 64)))) (shr .u64 18446744073709551615 (wrap64 (a1 - 64)))))) else (some (true, wrap64 (Go.bits .andNot .u64 (IntKind.u64.wrap (a0_1)) 0), wrap64 (Go.bits .andNot .u64 (IntKind.u64.wrap (a0_2)) (shr .u64 18446744073709551615 (wrap64 (a1 - 64))))))) else (none))) else (if 0 ≤ a1 then (if a2 = true then (some (false, 0, wrap64 (Go.bits .or .u64 (Go.bits .andNot .u64 (IntKind.u64.wrap (a0_2)) (shr .u64 4294967295 a1)) (shr .u64 4294967295 a1)))) else (some (false, 0, wrap64 (Go.bits .andNot .u64 (IntKind.u64.wrap (a0_2)) (shr .u64 4294967295 a1))))) else (none))
set_option maxHeartbeats 8000000 in
set_option maxRecDepth 100000 in
theorem impl_masked.calls (a0_0 : Bool) (a0_1 : Int) (a0_2 : Int) (a1 : Int) (a2 : Bool) (r1 : Bool) (r2 : Int) (r3 : Int) (w : World) (h : impl_masked.f a0_0 a0_1 a0_2 a1 a2 = some (r1, r2, r3)) :
  Calls Try.prog 115 #[.agg #[.bool a0_0, .int .i64 a0_1, .int .i64 a0_2], .int .i64 a1, .bool a2] w fun e w' => e = .returned (.agg #[.bool r1, .int .i64 r2, .int .i64 r3]) ∧ Below w.heap.size w w' := by
 have hu26 := Try.underlying26
 have HB := Aside0.mk (Below.refl w.heap.size w)
 have H : (if a0_0 = true then (if a1 < 64 then (if 0 ≤ a1 then (if a2 = true then (some (true, wrap64 (Go.bits .or .u64 (Go.bits .andNot .u64 (IntKind.u64.wrap (a0_1)) (shr .u64 18446744073709551615 a1)) (shr .u64 18446744073709551615 a1)), wrap64 (Go.bits .or .u64 (Go.bits .andNot .u64 (IntKind.u64.wrap (a0_2)) 18446744073709551615) 18446744073709551615))) else (some (true, wrap64 (Go.bits .andNot .u64 (IntKind.u64.wrap (a0_1)) (shr .u64 18446744073709551615 a1)), wrap64 (Go.bits .andNot .u64 (IntKind.u64.wrap (a0_2)) 18446744073709551615)))) else (none)) else (if 0 ≤ (wrap64 (a1 - 64)) then (if a2 = true then (some (true, wrap64 (Go.bits .or .u64 (Go.bits .andNot .u64 (IntKind.u64.wrap (a0_1)) 0) 0), wrap64 (Go.bits .or .u64 (Go.bits .andNot .u64 (IntKind.u64.wrap (a0_2)) (shr .u64 18446744073709551615 (wrap64 (a1 - 64)))) (shr .u64 18446744073709551615 (wrap64 (a1 - 64)))))) else (some (true, wrap64 (Go.bits .andNot .u64 (IntKind.u64.wrap (a0_1)) 0), wrap64 (Go.bits .andNot .u64 (IntKind.u64.wrap (a0_2)) (shr .u64 18446744073709551615 (wrap64 (a1 - 64))))))) else (none))) else (if 0 ≤ a1 then (if a2 = true then (some (false, 0, wrap64 (Go.bits .or .u64 (Go.bits .andNot .u64 (IntKind.u64.wrap (a0_2)) (shr .u64 4294967295 a1)) (shr .u64 4294967295 a1)))) else (some (false, 0, wrap64 (Go.bits .andNot .u64 (IntKind.u64.wrap (a0_2)) (shr .u64 4294967295 a1))))) else (none))) = some (r1, r2, r3) := h
 clear h
 by_cases c4 : a0_0 = true
 ·subst c4
  have H1 : (if a1 < 64 then (if 0 ≤ a1 then (if a2 = true then (some (true, wrap64 (Go.bits .or .u64 (Go.bits .andNot .u64 (IntKind.u64.wrap (a0_1)) (shr .u64 18446744073709551615 a1)) (shr .u64 18446744073709551615 a1)), wrap64 (Go.bits .or .u64 (Go.bits .andNot .u64 (IntKind.u64.wrap (a0_2)) 18446744073709551615) 18446744073709551615))) else (some (true, wrap64 (Go.bits .andNot .u64 (IntKind.u64.wrap (a0_1)) (shr .u64 18446744073709551615 a1)), wrap64 (Go.bits .andNot .u64 (IntKind.u64.wrap (a0_2)) 18446744073709551615)))) else (none)) else (if 0 ≤ (wrap64 (a1 - 64)) then (if a2 = true then (some (true, wrap64 (Go.bits .or .u64 (Go.bits .andNot .u64 (IntKind.u64.wrap (a0_1)) 0) 0), wrap64 (Go.bits .or .u64 (Go.bits .andNot .u64 (IntKind.u64.wrap (a0_2)) (shr .u64 18446744073709551615 (wrap64 (a1 - 64)))) (shr .u64 18446744073709551615 (wrap64 (a1 - 64)))))) else (some (true, wrap64 (Go.bits .andNot .u64 (IntKind.u64.wrap (a0_1)) 0), wrap64 (Go.bits .andNot .u64 (IntKind.u64.wrap (a0_2)) (shr .u64 18446744073709551615 (wrap64 (a1 - 64))))))) else (none))) = some (r1, r2, r3) := by rw [if_pos rfl] at H; exact H
  clear H
  have H := H1
  clear H1
  by_cases c5 : a1 < 64
  ·rw [if_pos c5] at H
   have c5b0 : decide (a1 < 64) = true := decide_eq_true c5
   clear c5
   by_cases c6 : 0 ≤ a1
   ·rw [if_pos c6] at H
    have c6b0 := eq_true c6
    have c6b1 : decide (0 ≤ a1) = true := decide_eq_true c6
    clear c6
    obtain ⟨ji7, hji7⟩ : ∃ j_ : Int, (shr .u64 18446744073709551615 a1) = j_ := ⟨_, rfl⟩
    replace H : (if a2 = true then (some (true, wrap64 (Go.bits .or .u64 (Go.bits .andNot .u64 (IntKind.u64.wrap (a0_1)) (ji7)) (ji7)), wrap64 (Go.bits .or .u64 (Go.bits .andNot .u64 (IntKind.u64.wrap (a0_2)) 18446744073709551615) 18446744073709551615))) else (some (true, wrap64 (Go.bits .andNot .u64 (IntKind.u64.wrap (a0_1)) (ji7)), wrap64 (Go.bits .andNot .u64 (IntKind.u64.wrap (a0_2)) 18446744073709551615)))) = some (r1, r2, r3) := by first | (rw [hji7] at H; exact H) | (simp only [hji7] at H ⊢; exact H)
    have hji7_ : (18446744073709551615 / 2 ^ min a1.toNat 64) = ji7 := hji7
    have hji7z : a1 ≤ 64 → (18446744073709551615 / 2 ^ a1.toNat) = ji7 := shr_small hji7
    by_cases c8 : a2 = true
    ·subst c8
     have H1 : (some (true, wrap64 (Go.bits .or .u64 (Go.bits .andNot .u64 (IntKind.u64.wrap (a0_1)) (ji7)) (ji7)), wrap64 (Go.bits .or .u64 (Go.bits .andNot .u64 (IntKind.u64.wrap (a0_2)) 18446744073709551615) 18446744073709551615))) = some (r1, r2, r3) := by rw [if_pos rfl] at H; exact H
     clear H
     have H := H1
     clear H1
     simp only [Option.some.injEq, Prod.mk.injEq] at H
     obtain ⟨rfl, rfl, rfl⟩ := H
     go_enter Try.func115, Try.ntmps115
     go_wp2_with (first | ((with_reducible refine gate_dst (N := 3) rfl ?_); refine box_event ?hg (N := 3) ?hd (cs := #[.bool true, .int .i64 a0_1, .int .i64 a0_2]) (t := 26) ?hr ?_; (case hd => rfl); (case hg => rfl); (case hr => first | (go_simp; done) | (go_simp; rfl)); intro gb233 hg w9 hbox hb; have n0_ := Aside0.mk (below_step (hb_ HB.out) hb); have n1_ := Aside0.mk (hbox); have n2_ := bg_ hg (below_size (hb_ HB.out)); have n3_ := bg_ hg (below_size (hb_ HB.out)); clear HB; have HB := n0_; have BK233 := n1_; have GW233 := n2_; have GE233 := n3_; clear n0_ n1_ n2_ n3_; clear hb hbox hg) | ((with_reducible refine gate_dst (N := 6) rfl ?_); refine box_event ?hg (N := 6) ?hd (cs := #[.bool false, .int .i64 0, .int .i64 0]) (t := 26) ?hr ?_; (case hd => rfl); (case hg => rfl); (case hr => first | (go_simp; done) | (go_simp; rfl)); intro gb234 hg w10 hbox hb; have n0_ := Aside0.mk (blk_below (bk_ BK233.out) hb); have n1_ := Aside0.mk (below_step (hc_ HB.out GE233.out) hb); have n2_ := Aside0.mk (hbox); have n3_ := bg_ hg (below_size (hc_ HB.out GE233.out)); have n4_ := bg_ hg (below_size (hc_ HB.out GE233.out)); have n5_ := bn_ hg (blk_lt (bk_ BK233.out)); have n6_ := bm_ hg (blk_lt (bk_ BK233.out)); clear BK233; clear HB; have BK233 := n0_; have HB := n1_; have BK234 := n2_; have GW234 := n3_; have GE234 := n4_; have NB233_234 := n5_; have NB234_233 := n6_; clear n0_ n1_ n2_ n3_ n4_ n5_ n6_; clear hb hbox hg; have hnb11 := NB233_234.out; have hnc11 := NB234_233.out; obtain ⟨hcz12_0, hcz12_1, hcz12_2, hfz12_0, hfz12_1, hfz12_2⟩ := bc3_ BK233.out; obtain ⟨hcz13_0, hcz13_1, hcz13_2, hfz13_0, hfz13_1, hfz13_2⟩ := bc3_ BK234.out))
     repeat (go_quiet (first | ((with_reducible refine gate_dst (N := 3) rfl ?_); refine box_event ?hg (N := 3) ?hd (cs := #[.bool true, .int .i64 a0_1, .int .i64 a0_2]) (t := 26) ?hr ?_; (case hd => rfl); (case hg => rfl); (case hr => first | (go_simp; done) | (go_simp; rfl)); intro gb233 hg w9 hbox hb; have n0_ := Aside0.mk (below_step (hb_ HB.out) hb); have n1_ := Aside0.mk (hbox); have n2_ := bg_ hg (below_size (hb_ HB.out)); have n3_ := bg_ hg (below_size (hb_ HB.out)); clear HB; have HB := n0_; have BK233 := n1_; have GW233 := n2_; have GE233 := n3_; clear n0_ n1_ n2_ n3_; clear hb hbox hg) | ((with_reducible refine gate_dst (N := 6) rfl ?_); refine box_event ?hg (N := 6) ?hd (cs := #[.bool false, .int .i64 0, .int .i64 0]) (t := 26) ?hr ?_; (case hd => rfl); (case hg => rfl); (case hr => first | (go_simp; done) | (go_simp; rfl)); intro gb234 hg w10 hbox hb; have n0_ := Aside0.mk (blk_below (bk_ BK233.out) hb); have n1_ := Aside0.mk (below_step (hc_ HB.out GE233.out) hb); have n2_ := Aside0.mk (hbox); have n3_ := bg_ hg (below_size (hc_ HB.out GE233.out)); have n4_ := bg_ hg (below_size (hc_ HB.out GE233.out)); have n5_ := bn_ hg (blk_lt (bk_ BK233.out)); have n6_ := bm_ hg (blk_lt (bk_ BK233.out)); clear BK233; clear HB; have BK233 := n0_; have HB := n1_; have BK234 := n2_; have GW234 := n3_; have GE234 := n4_; have NB233_234 := n5_; have NB234_233 := n6_; clear n0_ n1_ n2_ n3_ n4_ n5_ n6_; clear hb hbox hg; have hnb11 := NB233_234.out; have hnc11 := NB234_233.out; obtain ⟨hcz12_0, hcz12_1, hcz12_2, hfz12_0, hfz12_1, hfz12_2⟩ := bc3_ BK233.out; obtain ⟨hcz13_0, hcz13_1, hcz13_2, hfz13_0, hfz13_1, hfz13_2⟩ := bc3_ BK234.out)); try go_wp2_with (first | ((with_reducible refine gate_dst (N := 3) rfl ?_); refine box_event ?hg (N := 3) ?hd (cs := #[.bool true, .int .i64 a0_1, .int .i64 a0_2]) (t := 26) ?hr ?_; (case hd => rfl); (case hg => rfl); (case hr => first | (go_simp; done) | (go_simp; rfl)); intro gb233 hg w9 hbox hb; have n0_ := Aside0.mk (below_step (hb_ HB.out) hb); have n1_ := Aside0.mk (hbox); have n2_ := bg_ hg (below_size (hb_ HB.out)); have n3_ := bg_ hg (below_size (hb_ HB.out)); clear HB; have HB := n0_; have BK233 := n1_; have GW233 := n2_; have GE233 := n3_; clear n0_ n1_ n2_ n3_; clear hb hbox hg) | ((with_reducible refine gate_dst (N := 6) rfl ?_); refine box_event ?hg (N := 6) ?hd (cs := #[.bool false, .int .i64 0, .int .i64 0]) (t := 26) ?hr ?_; (case hd => rfl); (case hg => rfl); (case hr => first | (go_simp; done) | (go_simp; rfl)); intro gb234 hg w10 hbox hb; have n0_ := Aside0.mk (blk_below (bk_ BK233.out) hb); have n1_ := Aside0.mk (below_step (hc_ HB.out GE233.out) hb); have n2_ := Aside0.mk (hbox); have n3_ := bg_ hg (below_size (hc_ HB.out GE233.out)); have n4_ := bg_ hg (below_size (hc_ HB.out GE233.out)); have n5_ := bn_ hg (blk_lt (bk_ BK233.out)); have n6_ := bm_ hg (blk_lt (bk_ BK233.out)); clear BK233; clear HB; have BK233 := n0_; have HB := n1_; have BK234 := n2_; have GW234 := n3_; have GE234 := n4_; have NB233_234 := n5_; have NB234_233 := n6_; clear n0_ n1_ n2_ n3_ n4_ n5_ n6_; clear hb hbox hg; have hnb11 := NB233_234.out; have hnc11 := NB234_233.out; obtain ⟨hcz12_0, hcz12_1, hcz12_2, hfz12_0, hfz12_1, hfz12_2⟩ := bc3_ BK233.out; obtain ⟨hcz13_0, hcz13_1, hcz13_2, hfz13_0, hfz13_1, hfz13_2⟩ := bc3_ BK234.out)))
     refine bodyPost_ret (results_cell_row rfl _ _ gb234 26 #[.bool true, .int .i64 (wrap64 (Go.bits .or .u64 (Go.bits .andNot .u64 (IntKind.u64.wrap (a0_1)) (ji7)) (ji7))), .int .i64 (wrap64 (Go.bits .or .u64 (Go.bits .andNot .u64 (IntKind.u64.wrap (a0_2)) 18446744073709551615) 18446744073709551615))] (0, 0) _ rfl (by refine bk_ ?_; refine blk_put (cs := #[.bool true, .int .i64 (wrap64 (Go.bits .or .u64 (Go.bits .andNot .u64 (IntKind.u64.wrap (a0_1)) (ji7)) (ji7))), .int .i64 0]) ?_ 2 _ rfl; refine bk_ ?_; refine blk_put (cs := #[.bool true, .int .i64 0, .int .i64 0]) ?_ 1 _ rfl; refine bk_ ?_; refine blk_put (cs := #[.bool false, .int .i64 0, .int .i64 0]) ?_ 0 _ rfl; refine bk_ ?_; exact BK234.out) Try.underlying26 rfl (by kernel_rfl)) rfl ?_
     exact ⟨by first | rfl | (simp [errW_none, errW_some] <;> rfl) | (simp only [← hji7]; first | rfl | (simp [errW_none, errW_some] <;> rfl)) | (simp [*, errW_none, errW_some] <;> rfl), hd_ HB.out GE233.out GE234.out⟩
    ·replace c8 := Bool.eq_false_iff.mpr c8
     subst c8
     have H1 : (some (true, wrap64 (Go.bits .andNot .u64 (IntKind.u64.wrap (a0_1)) (ji7)), wrap64 (Go.bits .andNot .u64 (IntKind.u64.wrap (a0_2)) 18446744073709551615))) = some (r1, r2, r3) := by rw [if_neg (show ¬ (false = true) by decide)] at H; exact H
     clear H
     have H := H1
     clear H1
     simp only [Option.some.injEq, Prod.mk.injEq] at H
     obtain ⟨rfl, rfl, rfl⟩ := H
     go_enter Try.func115, Try.ntmps115
     go_wp2_with (first | ((with_reducible refine gate_dst (N := 3) rfl ?_); refine box_event ?hg (N := 3) ?hd (cs := #[.bool true, .int .i64 a0_1, .int .i64 a0_2]) (t := 26) ?hr ?_; (case hd => rfl); (case hg => rfl); (case hr => first | (go_simp; done) | (go_simp; rfl)); intro gb233 hg w14 hbox hb; have n0_ := Aside0.mk (below_step (hb_ HB.out) hb); have n1_ := Aside0.mk (hbox); have n2_ := bg_ hg (below_size (hb_ HB.out)); have n3_ := bg_ hg (below_size (hb_ HB.out)); clear HB; have HB := n0_; have BK233 := n1_; have GW233 := n2_; have GE233 := n3_; clear n0_ n1_ n2_ n3_; clear hb hbox hg) | ((with_reducible refine gate_dst (N := 6) rfl ?_); refine box_event ?hg (N := 6) ?hd (cs := #[.bool false, .int .i64 0, .int .i64 0]) (t := 26) ?hr ?_; (case hd => rfl); (case hg => rfl); (case hr => first | (go_simp; done) | (go_simp; rfl)); intro gb234 hg w15 hbox hb; have n0_ := Aside0.mk (blk_below (bk_ BK233.out) hb); have n1_ := Aside0.mk (below_step (hc_ HB.out GE233.out) hb); have n2_ := Aside0.mk (hbox); have n3_ := bg_ hg (below_size (hc_ HB.out GE233.out)); have n4_ := bg_ hg (below_size (hc_ HB.out GE233.out)); have n5_ := bn_ hg (blk_lt (bk_ BK233.out)); have n6_ := bm_ hg (blk_lt (bk_ BK233.out)); clear BK233; clear HB; have BK233 := n0_; have HB := n1_; have BK234 := n2_; have GW234 := n3_; have GE234 := n4_; have NB233_234 := n5_; have NB234_233 := n6_; clear n0_ n1_ n2_ n3_ n4_ n5_ n6_; clear hb hbox hg; have hnb16 := NB233_234.out; have hnc16 := NB234_233.out; obtain ⟨hcz17_0, hcz17_1, hcz17_2, hfz17_0, hfz17_1, hfz17_2⟩ := bc3_ BK233.out; obtain ⟨hcz18_0, hcz18_1, hcz18_2, hfz18_0, hfz18_1, hfz18_2⟩ := bc3_ BK234.out))
     repeat (go_quiet (first | ((with_reducible refine gate_dst (N := 3) rfl ?_); refine box_event ?hg (N := 3) ?hd (cs := #[.bool true, .int .i64 a0_1, .int .i64 a0_2]) (t := 26) ?hr ?_; (case hd => rfl); (case hg => rfl); (case hr => first | (go_simp; done) | (go_simp; rfl)); intro gb233 hg w14 hbox hb; have n0_ := Aside0.mk (below_step (hb_ HB.out) hb); have n1_ := Aside0.mk (hbox); have n2_ := bg_ hg (below_size (hb_ HB.out)); have n3_ := bg_ hg (below_size (hb_ HB.out)); clear HB; have HB := n0_; have BK233 := n1_; have GW233 := n2_; have GE233 := n3_; clear n0_ n1_ n2_ n3_; clear hb hbox hg) | ((with_reducible refine gate_dst (N := 6) rfl ?_); refine box_event ?hg (N := 6) ?hd (cs := #[.bool false, .int .i64 0, .int .i64 0]) (t := 26) ?hr ?_; (case hd => rfl); (case hg => rfl); (case hr => first | (go_simp; done) | (go_simp; rfl)); intro gb234 hg w15 hbox hb; have n0_ := Aside0.mk (blk_below (bk_ BK233.out) hb); have n1_ := Aside0.mk (below_step (hc_ HB.out GE233.out) hb); have n2_ := Aside0.mk (hbox); have n3_ := bg_ hg (below_size (hc_ HB.out GE233.out)); have n4_ := bg_ hg (below_size (hc_ HB.out GE233.out)); have n5_ := bn_ hg (blk_lt (bk_ BK233.out)); have n6_ := bm_ hg (blk_lt (bk_ BK233.out)); clear BK233; clear HB; have BK233 := n0_; have HB := n1_; have BK234 := n2_; have GW234 := n3_; have GE234 := n4_; have NB233_234 := n5_; have NB234_233 := n6_; clear n0_ n1_ n2_ n3_ n4_ n5_ n6_; clear hb hbox hg; have hnb16 := NB233_234.out; have hnc16 := NB234_233.out; obtain ⟨hcz17_0, hcz17_1, hcz17_2, hfz17_0, hfz17_1, hfz17_2⟩ := bc3_ BK233.out; obtain ⟨hcz18_0, hcz18_1, hcz18_2, hfz18_0, hfz18_1, hfz18_2⟩ := bc3_ BK234.out)); try go_wp2_with (first | ((with_reducible refine gate_dst (N := 3) rfl ?_); refine box_event ?hg (N := 3) ?hd (cs := #[.bool true, .int .i64 a0_1, .int .i64 a0_2]) (t := 26) ?hr ?_; (case hd => rfl); (case hg => rfl); (case hr => first | (go_simp; done) | (go_simp; rfl)); intro gb233 hg w14 hbox hb; have n0_ := Aside0.mk (below_step (hb_ HB.out) hb); have n1_ := Aside0.mk (hbox); have n2_ := bg_ hg (below_size (hb_ HB.out)); have n3_ := bg_ hg (below_size (hb_ HB.out)); clear HB; have HB := n0_; have BK233 := n1_; have GW233 := n2_; have GE233 := n3_; clear n0_ n1_ n2_ n3_; clear hb hbox hg) | ((with_reducible refine gate_dst (N := 6) rfl ?_); refine box_event ?hg (N := 6) ?hd (cs := #[.bool false, .int .i64 0, .int .i64 0]) (t := 26) ?hr ?_; (case hd => rfl); (case hg => rfl); (case hr => first | (go_simp; done) | (go_simp; rfl)); intro gb234 hg w15 hbox hb; have n0_ := Aside0.mk (blk_below (bk_ BK233.out) hb); have n1_ := Aside0.mk (below_step (hc_ HB.out GE233.out) hb); have n2_ := Aside0.mk (hbox); have n3_ := bg_ hg (below_size (hc_ HB.out GE233.out)); have n4_ := bg_ hg (below_size (hc_ HB.out GE233.out)); have n5_ := bn_ hg (blk_lt (bk_ BK233.out)); have n6_ := bm_ hg (blk_lt (bk_ BK233.out)); clear BK233; clear HB; have BK233 := n0_; have HB := n1_; have BK234 := n2_; have GW234 := n3_; have GE234 := n4_; have NB233_234 := n5_; have NB234_233 := n6_; clear n0_ n1_ n2_ n3_ n4_ n5_ n6_; clear hb hbox hg; have hnb16 := NB233_234.out; have hnc16 := NB234_233.out; obtain ⟨hcz17_0, hcz17_1, hcz17_2, hfz17_0, hfz17_1, hfz17_2⟩ := bc3_ BK233.out; obtain ⟨hcz18_0, hcz18_1, hcz18_2, hfz18_0, hfz18_1, hfz18_2⟩ := bc3_ BK234.out)))
     refine bodyPost_ret (results_cell_row rfl _ _ gb234 26 #[.bool true, .int .i64 (wrap64 (Go.bits .andNot .u64 (IntKind.u64.wrap (a0_1)) (ji7))), .int .i64 (wrap64 (Go.bits .andNot .u64 (IntKind.u64.wrap (a0_2)) 18446744073709551615))] (0, 0) _ rfl (by refine bk_ ?_; refine blk_put (cs := #[.bool true, .int .i64 (wrap64 (Go.bits .andNot .u64 (IntKind.u64.wrap (a0_1)) (ji7))), .int .i64 0]) ?_ 2 _ rfl; refine bk_ ?_; refine blk_put (cs := #[.bool true, .int .i64 0, .int .i64 0]) ?_ 1 _ rfl; refine bk_ ?_; refine blk_put (cs := #[.bool false, .int .i64 0, .int .i64 0]) ?_ 0 _ rfl; refine bk_ ?_; exact BK234.out) Try.underlying26 rfl (by kernel_rfl)) rfl ?_
     exact ⟨by first | rfl | (simp [errW_none, errW_some] <;> rfl) | (simp only [← hji7]; first | rfl | (simp [errW_none, errW_some] <;> rfl)) | (simp [*, errW_none, errW_some] <;> rfl), hd_ HB.out GE233.out GE234.out⟩
   ·rw [if_neg c6] at H
    exact absurd H (by simp)
  ·rw [if_neg c5] at H
   have c5b0 : decide (a1 < 64) = false := decide_eq_false c5
   clear c5
   obtain ⟨ji19, hji19⟩ : ∃ j_ : Int, (wrap64 (a1 - 64)) = j_ := ⟨_, rfl⟩
   replace H : (if 0 ≤ (ji19) then (if a2 = true then (some (true, wrap64 (Go.bits .or .u64 (Go.bits .andNot .u64 (IntKind.u64.wrap (a0_1)) 0) 0), wrap64 (Go.bits .or .u64 (Go.bits .andNot .u64 (IntKind.u64.wrap (a0_2)) (shr .u64 18446744073709551615 (ji19))) (shr .u64 18446744073709551615 (ji19))))) else (some (true, wrap64 (Go.bits .andNot .u64 (IntKind.u64.wrap (a0_1)) 0), wrap64 (Go.bits .andNot .u64 (IntKind.u64.wrap (a0_2)) (shr .u64 18446744073709551615 (ji19)))))) else (none)) = some (r1, r2, r3) := by first | (rw [hji19] at H; exact H) | (simp only [hji19] at H ⊢; exact H)
   have hji19w : (IntKind.i64.wrap (a1 - 64)) = ji19 := (i64_w _).trans hji19
   by_cases c20 : 0 ≤ (ji19)
   ·rw [if_pos c20] at H
    have c20b0 := eq_true c20
    have c20b1 : decide (0 ≤ (ji19)) = true := decide_eq_true c20
    clear c20
    obtain ⟨ji21, hji21⟩ : ∃ j_ : Int, (shr .u64 18446744073709551615 (ji19)) = j_ := ⟨_, rfl⟩
    replace H : (if a2 = true then (some (true, wrap64 (Go.bits .or .u64 (Go.bits .andNot .u64 (IntKind.u64.wrap (a0_1)) 0) 0), wrap64 (Go.bits .or .u64 (Go.bits .andNot .u64 (IntKind.u64.wrap (a0_2)) (ji21)) (ji21)))) else (some (true, wrap64 (Go.bits .andNot .u64 (IntKind.u64.wrap (a0_1)) 0), wrap64 (Go.bits .andNot .u64 (IntKind.u64.wrap (a0_2)) (ji21))))) = some (r1, r2, r3) := by first | (rw [hji21] at H; exact H) | (simp only [hji21] at H ⊢; exact H)
    have hji21_ : (18446744073709551615 / 2 ^ min (ji19).toNat 64) = ji21 := hji21
    have hji21z : (ji19) ≤ 64 → (18446744073709551615 / 2 ^ (ji19).toNat) = ji21 := shr_small hji21
    by_cases c22 : a2 = true
    ·subst c22
     have H1 : (some (true, wrap64 (Go.bits .or .u64 (Go.bits .andNot .u64 (IntKind.u64.wrap (a0_1)) 0) 0), wrap64 (Go.bits .or .u64 (Go.bits .andNot .u64 (IntKind.u64.wrap (a0_2)) (ji21)) (ji21)))) = some (r1, r2, r3) := by rw [if_pos rfl] at H; exact H
     clear H
     have H := H1
     clear H1
     simp only [Option.some.injEq, Prod.mk.injEq] at H
     obtain ⟨rfl, rfl, rfl⟩ := H
     go_enter Try.func115, Try.ntmps115
     go_wp2_with (first | ((with_reducible refine gate_dst (N := 3) rfl ?_); refine box_event ?hg (N := 3) ?hd (cs := #[.bool true, .int .i64 a0_1, .int .i64 a0_2]) (t := 26) ?hr ?_; (case hd => rfl); (case hg => rfl); (case hr => first | (go_simp; done) | (go_simp; rfl)); intro gb233 hg w23 hbox hb; have n0_ := Aside0.mk (below_step (hb_ HB.out) hb); have n1_ := Aside0.mk (hbox); have n2_ := bg_ hg (below_size (hb_ HB.out)); have n3_ := bg_ hg (below_size (hb_ HB.out)); clear HB; have HB := n0_; have BK233 := n1_; have GW233 := n2_; have GE233 := n3_; clear n0_ n1_ n2_ n3_; clear hb hbox hg) | ((with_reducible refine gate_dst (N := 6) rfl ?_); refine box_event ?hg (N := 6) ?hd (cs := #[.bool false, .int .i64 0, .int .i64 0]) (t := 26) ?hr ?_; (case hd => rfl); (case hg => rfl); (case hr => first | (go_simp; done) | (go_simp; rfl)); intro gb234 hg w24 hbox hb; have n0_ := Aside0.mk (blk_below (bk_ BK233.out) hb); have n1_ := Aside0.mk (below_step (hc_ HB.out GE233.out) hb); have n2_ := Aside0.mk (hbox); have n3_ := bg_ hg (below_size (hc_ HB.out GE233.out)); have n4_ := bg_ hg (below_size (hc_ HB.out GE233.out)); have n5_ := bn_ hg (blk_lt (bk_ BK233.out)); have n6_ := bm_ hg (blk_lt (bk_ BK233.out)); clear BK233; clear HB; have BK233 := n0_; have HB := n1_; have BK234 := n2_; have GW234 := n3_; have GE234 := n4_; have NB233_234 := n5_; have NB234_233 := n6_; clear n0_ n1_ n2_ n3_ n4_ n5_ n6_; clear hb hbox hg; have hnb25 := NB233_234.out; have hnc25 := NB234_233.out; obtain ⟨hcz26_0, hcz26_1, hcz26_2, hfz26_0, hfz26_1, hfz26_2⟩ := bc3_ BK233.out; obtain ⟨hcz27_0, hcz27_1, hcz27_2, hfz27_0, hfz27_1, hfz27_2⟩ := bc3_ BK234.out))
     repeat (go_quiet (first | ((with_reducible refine gate_dst (N := 3) rfl ?_); refine box_event ?hg (N := 3) ?hd (cs := #[.bool true, .int .i64 a0_1, .int .i64 a0_2]) (t := 26) ?hr ?_; (case hd => rfl); (case hg => rfl); (case hr => first | (go_simp; done) | (go_simp; rfl)); intro gb233 hg w23 hbox hb; have n0_ := Aside0.mk (below_step (hb_ HB.out) hb); have n1_ := Aside0.mk (hbox); have n2_ := bg_ hg (below_size (hb_ HB.out)); have n3_ := bg_ hg (below_size (hb_ HB.out)); clear HB; have HB := n0_; have BK233 := n1_; have GW233 := n2_; have GE233 := n3_; clear n0_ n1_ n2_ n3_; clear hb hbox hg) | ((with_reducible refine gate_dst (N := 6) rfl ?_); refine box_event ?hg (N := 6) ?hd (cs := #[.bool false, .int .i64 0, .int .i64 0]) (t := 26) ?hr ?_; (case hd => rfl); (case hg => rfl); (case hr => first | (go_simp; done) | (go_simp; rfl)); intro gb234 hg w24 hbox hb; have n0_ := Aside0.mk (blk_below (bk_ BK233.out) hb); have n1_ := Aside0.mk (below_step (hc_ HB.out GE233.out) hb); have n2_ := Aside0.mk (hbox); have n3_ := bg_ hg (below_size (hc_ HB.out GE233.out)); have n4_ := bg_ hg (below_size (hc_ HB.out GE233.out)); have n5_ := bn_ hg (blk_lt (bk_ BK233.out)); have n6_ := bm_ hg (blk_lt (bk_ BK233.out)); clear BK233; clear HB; have BK233 := n0_; have HB := n1_; have BK234 := n2_; have GW234 := n3_; have GE234 := n4_; have NB233_234 := n5_; have NB234_233 := n6_; clear n0_ n1_ n2_ n3_ n4_ n5_ n6_; clear hb hbox hg; have hnb25 := NB233_234.out; have hnc25 := NB234_233.out; obtain ⟨hcz26_0, hcz26_1, hcz26_2, hfz26_0, hfz26_1, hfz26_2⟩ := bc3_ BK233.out; obtain ⟨hcz27_0, hcz27_1, hcz27_2, hfz27_0, hfz27_1, hfz27_2⟩ := bc3_ BK234.out)); try go_wp2_with (first | ((with_reducible refine gate_dst (N := 3) rfl ?_); refine box_event ?hg (N := 3) ?hd (cs := #[.bool true, .int .i64 a0_1, .int .i64 a0_2]) (t := 26) ?hr ?_; (case hd => rfl); (case hg => rfl); (case hr => first | (go_simp; done) | (go_simp; rfl)); intro gb233 hg w23 hbox hb; have n0_ := Aside0.mk (below_step (hb_ HB.out) hb); have n1_ := Aside0.mk (hbox); have n2_ := bg_ hg (below_size (hb_ HB.out)); have n3_ := bg_ hg (below_size (hb_ HB.out)); clear HB; have HB := n0_; have BK233 := n1_; have GW233 := n2_; have GE233 := n3_; clear n0_ n1_ n2_ n3_; clear hb hbox hg) | ((with_reducible refine gate_dst (N := 6) rfl ?_); refine box_event ?hg (N := 6) ?hd (cs := #[.bool false, .int .i64 0, .int .i64 0]) (t := 26) ?hr ?_; (case hd => rfl); (case hg => rfl); (case hr => first | (go_simp; done) | (go_simp; rfl)); intro gb234 hg w24 hbox hb; have n0_ := Aside0.mk (blk_below (bk_ BK233.out) hb); have n1_ := Aside0.mk (below_step (hc_ HB.out GE233.out) hb); have n2_ := Aside0.mk (hbox); have n3_ := bg_ hg (below_size (hc_ HB.out GE233.out)); have n4_ := bg_ hg (below_size (hc_ HB.out GE233.out)); have n5_ := bn_ hg (blk_lt (bk_ BK233.out)); have n6_ := bm_ hg (blk_lt (bk_ BK233.out)); clear BK233; clear HB; have BK233 := n0_; have HB := n1_; have BK234 := n2_; have GW234 := n3_; have GE234 := n4_; have NB233_234 := n5_; have NB234_233 := n6_; clear n0_ n1_ n2_ n3_ n4_ n5_ n6_; clear hb hbox hg; have hnb25 := NB233_234.out; have hnc25 := NB234_233.out; obtain ⟨hcz26_0, hcz26_1, hcz26_2, hfz26_0, hfz26_1, hfz26_2⟩ := bc3_ BK233.out; obtain ⟨hcz27_0, hcz27_1, hcz27_2, hfz27_0, hfz27_1, hfz27_2⟩ := bc3_ BK234.out)))
     refine bodyPost_ret (results_cell_row rfl _ _ gb234 26 #[.bool true, .int .i64 (wrap64 (Go.bits .or .u64 (Go.bits .andNot .u64 (IntKind.u64.wrap (a0_1)) 0) 0)), .int .i64 (wrap64 (Go.bits .or .u64 (Go.bits .andNot .u64 (IntKind.u64.wrap (a0_2)) (ji21)) (ji21)))] (0, 0) _ rfl (by refine bk_ ?_; refine blk_put (cs := #[.bool true, .int .i64 (wrap64 (Go.bits .or .u64 (Go.bits .andNot .u64 (IntKind.u64.wrap (a0_1)) 0) 0)), .int .i64 0]) ?_ 2 _ rfl; refine bk_ ?_; refine blk_put (cs := #[.bool true, .int .i64 0, .int .i64 0]) ?_ 1 _ rfl; refine bk_ ?_; refine blk_put (cs := #[.bool false, .int .i64 0, .int .i64 0]) ?_ 0 _ rfl; refine bk_ ?_; exact BK234.out) Try.underlying26 rfl (by kernel_rfl)) rfl ?_
     exact ⟨by first | rfl | (simp [errW_none, errW_some] <;> rfl) | (simp only [← hji19, ← hji21]; first | rfl | (simp [errW_none, errW_some] <;> rfl)) | (simp [*, errW_none, errW_some] <;> rfl), hd_ HB.out GE233.out GE234.out⟩
    ·replace c22 := Bool.eq_false_iff.mpr c22
     subst c22
     have H1 : (some (true, wrap64 (Go.bits .andNot .u64 (IntKind.u64.wrap (a0_1)) 0), wrap64 (Go.bits .andNot .u64 (IntKind.u64.wrap (a0_2)) (ji21)))) = some (r1, r2, r3) := by rw [if_neg (show ¬ (false = true) by decide)] at H; exact H
     clear H
     have H := H1
     clear H1
     simp only [Option.some.injEq, Prod.mk.injEq] at H
     obtain ⟨rfl, rfl, rfl⟩ := H
     go_enter Try.func115, Try.ntmps115
     go_wp2_with (first | ((with_reducible refine gate_dst (N := 3) rfl ?_); refine box_event ?hg (N := 3) ?hd (cs := #[.bool true, .int .i64 a0_1, .int .i64 a0_2]) (t := 26) ?hr ?_; (case hd => rfl); (case hg => rfl); (case hr => first | (go_simp; done) | (go_simp; rfl)); intro gb233 hg w28 hbox hb; have n0_ := Aside0.mk (below_step (hb_ HB.out) hb); have n1_ := Aside0.mk (hbox); have n2_ := bg_ hg (below_size (hb_ HB.out)); have n3_ := bg_ hg (below_size (hb_ HB.out)); clear HB; have HB := n0_; have BK233 := n1_; have GW233 := n2_; have GE233 := n3_; clear n0_ n1_ n2_ n3_; clear hb hbox hg) | ((with_reducible refine gate_dst (N := 6) rfl ?_); refine box_event ?hg (N := 6) ?hd (cs := #[.bool false, .int .i64 0, .int .i64 0]) (t := 26) ?hr ?_; (case hd => rfl); (case hg => rfl); (case hr => first | (go_simp; done) | (go_simp; rfl)); intro gb234 hg w29 hbox hb; have n0_ := Aside0.mk (blk_below (bk_ BK233.out) hb); have n1_ := Aside0.mk (below_step (hc_ HB.out GE233.out) hb); have n2_ := Aside0.mk (hbox); have n3_ := bg_ hg (below_size (hc_ HB.out GE233.out)); have n4_ := bg_ hg (below_size (hc_ HB.out GE233.out)); have n5_ := bn_ hg (blk_lt (bk_ BK233.out)); have n6_ := bm_ hg (blk_lt (bk_ BK233.out)); clear BK233; clear HB; have BK233 := n0_; have HB := n1_; have BK234 := n2_; have GW234 := n3_; have GE234 := n4_; have NB233_234 := n5_; have NB234_233 := n6_; clear n0_ n1_ n2_ n3_ n4_ n5_ n6_; clear hb hbox hg; have hnb30 := NB233_234.out; have hnc30 := NB234_233.out; obtain ⟨hcz31_0, hcz31_1, hcz31_2, hfz31_0, hfz31_1, hfz31_2⟩ := bc3_ BK233.out; obtain ⟨hcz32_0, hcz32_1, hcz32_2, hfz32_0, hfz32_1, hfz32_2⟩ := bc3_ BK234.out))
     repeat (go_quiet (first | ((with_reducible refine gate_dst (N := 3) rfl ?_); refine box_event ?hg (N := 3) ?hd (cs := #[.bool true, .int .i64 a0_1, .int .i64 a0_2]) (t := 26) ?hr ?_; (case hd => rfl); (case hg => rfl); (case hr => first | (go_simp; done) | (go_simp; rfl)); intro gb233 hg w28 hbox hb; have n0_ := Aside0.mk (below_step (hb_ HB.out) hb); have n1_ := Aside0.mk (hbox); have n2_ := bg_ hg (below_size (hb_ HB.out)); have n3_ := bg_ hg (below_size (hb_ HB.out)); clear HB; have HB := n0_; have BK233 := n1_; have GW233 := n2_; have GE233 := n3_; clear n0_ n1_ n2_ n3_; clear hb hbox hg) | ((with_reducible refine gate_dst (N := 6) rfl ?_); refine box_event ?hg (N := 6) ?hd (cs := #[.bool false, .int .i64 0, .int .i64 0]) (t := 26) ?hr ?_; (case hd => rfl); (case hg => rfl); (case hr => first | (go_simp; done) | (go_simp; rfl)); intro gb234 hg w29 hbox hb; have n0_ := Aside0.mk (blk_below (bk_ BK233.out) hb); have n1_ := Aside0.mk (below_step (hc_ HB.out GE233.out) hb); have n2_ := Aside0.mk (hbox); have n3_ := bg_ hg (below_size (hc_ HB.out GE233.out)); have n4_ := bg_ hg (below_size (hc_ HB.out GE233.out)); have n5_ := bn_ hg (blk_lt (bk_ BK233.out)); have n6_ := bm_ hg (blk_lt (bk_ BK233.out)); clear BK233; clear HB; have BK233 := n0_; have HB := n1_; have BK234 := n2_; have GW234 := n3_; have GE234 := n4_; have NB233_234 := n5_; have NB234_233 := n6_; clear n0_ n1_ n2_ n3_ n4_ n5_ n6_; clear hb hbox hg; have hnb30 := NB233_234.out; have hnc30 := NB234_233.out; obtain ⟨hcz31_0, hcz31_1, hcz31_2, hfz31_0, hfz31_1, hfz31_2⟩ := bc3_ BK233.out; obtain ⟨hcz32_0, hcz32_1, hcz32_2, hfz32_0, hfz32_1, hfz32_2⟩ := bc3_ BK234.out)); try go_wp2_with (first | ((with_reducible refine gate_dst (N := 3) rfl ?_); refine box_event ?hg (N := 3) ?hd (cs := #[.bool true, .int .i64 a0_1, .int .i64 a0_2]) (t := 26) ?hr ?_; (case hd => rfl); (case hg => rfl); (case hr => first | (go_simp; done) | (go_simp; rfl)); intro gb233 hg w28 hbox hb; have n0_ := Aside0.mk (below_step (hb_ HB.out) hb); have n1_ := Aside0.mk (hbox); have n2_ := bg_ hg (below_size (hb_ HB.out)); have n3_ := bg_ hg (below_size (hb_ HB.out)); clear HB; have HB := n0_; have BK233 := n1_; have GW233 := n2_; have GE233 := n3_; clear n0_ n1_ n2_ n3_; clear hb hbox hg) | ((with_reducible refine gate_dst (N := 6) rfl ?_); refine box_event ?hg (N := 6) ?hd (cs := #[.bool false, .int .i64 0, .int .i64 0]) (t := 26) ?hr ?_; (case hd => rfl); (case hg => rfl); (case hr => first | (go_simp; done) | (go_simp; rfl)); intro gb234 hg w29 hbox hb; have n0_ := Aside0.mk (blk_below (bk_ BK233.out) hb); have n1_ := Aside0.mk (below_step (hc_ HB.out GE233.out) hb); have n2_ := Aside0.mk (hbox); have n3_ := bg_ hg (below_size (hc_ HB.out GE233.out)); have n4_ := bg_ hg (below_size (hc_ HB.out GE233.out)); have n5_ := bn_ hg (blk_lt (bk_ BK233.out)); have n6_ := bm_ hg (blk_lt (bk_ BK233.out)); clear BK233; clear HB; have BK233 := n0_; have HB := n1_; have BK234 := n2_; have GW234 := n3_; have GE234 := n4_; have NB233_234 := n5_; have NB234_233 := n6_; clear n0_ n1_ n2_ n3_ n4_ n5_ n6_; clear hb hbox hg; have hnb30 := NB233_234.out; have hnc30 := NB234_233.out; obtain ⟨hcz31_0, hcz31_1, hcz31_2, hfz31_0, hfz31_1, hfz31_2⟩ := bc3_ BK233.out; obtain ⟨hcz32_0, hcz32_1, hcz32_2, hfz32_0, hfz32_1, hfz32_2⟩ := bc3_ BK234.out)))
     refine bodyPost_ret (results_cell_row rfl _ _ gb234 26 #[.bool true, .int .i64 (wrap64 (Go.bits .andNot .u64 (IntKind.u64.wrap (a0_1)) 0)), .int .i64 (wrap64 (Go.bits .andNot .u64 (IntKind.u64.wrap (a0_2)) (ji21)))] (0, 0) _ rfl (by refine bk_ ?_; refine blk_put (cs := #[.bool true, .int .i64 (wrap64 (Go.bits .andNot .u64 (IntKind.u64.wrap (a0_1)) 0)), .int .i64 0]) ?_ 2 _ rfl; refine bk_ ?_; refine blk_put (cs := #[.bool true, .int .i64 0, .int .i64 0]) ?_ 1 _ rfl; refine bk_ ?_; refine blk_put (cs := #[.bool false, .int .i64 0, .int .i64 0]) ?_ 0 _ rfl; refine bk_ ?_; exact BK234.out) Try.underlying26 rfl (by kernel_rfl)) rfl ?_
     exact ⟨by first | rfl | (simp [errW_none, errW_some] <;> rfl) | (simp only [← hji19, ← hji21]; first | rfl | (simp [errW_none, errW_some] <;> rfl)) | (simp [*, errW_none, errW_some] <;> rfl), hd_ HB.out GE233.out GE234.out⟩
   ·rw [if_neg c20] at H
    exact absurd H (by simp)
 ·replace c4 := Bool.eq_false_iff.mpr c4
  subst c4
  have H1 : (if 0 ≤ a1 then (if a2 = true then (some (false, 0, wrap64 (Go.bits .or .u64 (Go.bits .andNot .u64 (IntKind.u64.wrap (a0_2)) (shr .u64 4294967295 a1)) (shr .u64 4294967295 a1)))) else (some (false, 0, wrap64 (Go.bits .andNot .u64 (IntKind.u64.wrap (a0_2)) (shr .u64 4294967295 a1))))) else (none)) = some (r1, r2, r3) := by rw [if_neg (show ¬ (false = true) by decide)] at H; exact H
  clear H
  have H := H1
  clear H1
  by_cases c33 : 0 ≤ a1
  ·rw [if_pos c33] at H
   have c33b0 := eq_true c33
   have c33b1 : decide (0 ≤ a1) = true := decide_eq_true c33
   clear c33
   obtain ⟨ji34, hji34⟩ : ∃ j_ : Int, (shr .u64 4294967295 a1) = j_ := ⟨_, rfl⟩
   replace H : (if a2 = true then (some (false, 0, wrap64 (Go.bits .or .u64 (Go.bits .andNot .u64 (IntKind.u64.wrap (a0_2)) (ji34)) (ji34)))) else (some (false, 0, wrap64 (Go.bits .andNot .u64 (IntKind.u64.wrap (a0_2)) (ji34))))) = some (r1, r2, r3) := by first | (rw [hji34] at H; exact H) | (simp only [hji34] at H ⊢; exact H)
   have hji34_ : (4294967295 / 2 ^ min a1.toNat 64) = ji34 := hji34
   have hji34z : a1 ≤ 64 → (4294967295 / 2 ^ a1.toNat) = ji34 := shr_small hji34
   by_cases c35 : a2 = true
   ·subst c35
    have H1 : (some (false, 0, wrap64 (Go.bits .or .u64 (Go.bits .andNot .u64 (IntKind.u64.wrap (a0_2)) (ji34)) (ji34)))) = some (r1, r2, r3) := by rw [if_pos rfl] at H; exact H
    clear H
    have H := H1
    clear H1
    simp only [Option.some.injEq, Prod.mk.injEq] at H
    obtain ⟨rfl, rfl, rfl⟩ := H
    go_enter Try.func115, Try.ntmps115
    go_wp2_with (first | ((with_reducible refine gate_dst (N := 3) rfl ?_); refine box_event ?hg (N := 3) ?hd (cs := #[.bool false, .int .i64 a0_1, .int .i64 a0_2]) (t := 26) ?hr ?_; (case hd => rfl); (case hg => rfl); (case hr => first | (go_simp; done) | (go_simp; rfl)); intro gb233 hg w36 hbox hb; have n0_ := Aside0.mk (below_step (hb_ HB.out) hb); have n1_ := Aside0.mk (hbox); have n2_ := bg_ hg (below_size (hb_ HB.out)); have n3_ := bg_ hg (below_size (hb_ HB.out)); clear HB; have HB := n0_; have BK233 := n1_; have GW233 := n2_; have GE233 := n3_; clear n0_ n1_ n2_ n3_; clear hb hbox hg) | ((with_reducible refine gate_dst (N := 6) rfl ?_); refine box_event ?hg (N := 6) ?hd (cs := #[.bool false, .int .i64 0, .int .i64 0]) (t := 26) ?hr ?_; (case hd => rfl); (case hg => rfl); (case hr => first | (go_simp; done) | (go_simp; rfl)); intro gb234 hg w37 hbox hb; have n0_ := Aside0.mk (blk_below (bk_ BK233.out) hb); have n1_ := Aside0.mk (below_step (hc_ HB.out GE233.out) hb); have n2_ := Aside0.mk (hbox); have n3_ := bg_ hg (below_size (hc_ HB.out GE233.out)); have n4_ := bg_ hg (below_size (hc_ HB.out GE233.out)); have n5_ := bn_ hg (blk_lt (bk_ BK233.out)); have n6_ := bm_ hg (blk_lt (bk_ BK233.out)); clear BK233; clear HB; have BK233 := n0_; have HB := n1_; have BK234 := n2_; have GW234 := n3_; have GE234 := n4_; have NB233_234 := n5_; have NB234_233 := n6_; clear n0_ n1_ n2_ n3_ n4_ n5_ n6_; clear hb hbox hg; have hnb38 := NB233_234.out; have hnc38 := NB234_233.out; obtain ⟨hcz39_0, hcz39_1, hcz39_2, hfz39_0, hfz39_1, hfz39_2⟩ := bc3_ BK233.out; obtain ⟨hcz40_0, hcz40_1, hcz40_2, hfz40_0, hfz40_1, hfz40_2⟩ := bc3_ BK234.out))
    repeat (go_quiet (first | ((with_reducible refine gate_dst (N := 3) rfl ?_); refine box_event ?hg (N := 3) ?hd (cs := #[.bool false, .int .i64 a0_1, .int .i64 a0_2]) (t := 26) ?hr ?_; (case hd => rfl); (case hg => rfl); (case hr => first | (go_simp; done) | (go_simp; rfl)); intro gb233 hg w36 hbox hb; have n0_ := Aside0.mk (below_step (hb_ HB.out) hb); have n1_ := Aside0.mk (hbox); have n2_ := bg_ hg (below_size (hb_ HB.out)); have n3_ := bg_ hg (below_size (hb_ HB.out)); clear HB; have HB := n0_; have BK233 := n1_; have GW233 := n2_; have GE233 := n3_; clear n0_ n1_ n2_ n3_; clear hb hbox hg) | ((with_reducible refine gate_dst (N := 6) rfl ?_); refine box_event ?hg (N := 6) ?hd (cs := #[.bool false, .int .i64 0, .int .i64 0]) (t := 26) ?hr ?_; (case hd => rfl); (case hg => rfl); (case hr => first | (go_simp; done) | (go_simp; rfl)); intro gb234 hg w37 hbox hb; have n0_ := Aside0.mk (blk_below (bk_ BK233.out) hb); have n1_ := Aside0.mk (below_step (hc_ HB.out GE233.out) hb); have n2_ := Aside0.mk (hbox); have n3_ := bg_ hg (below_size (hc_ HB.out GE233.out)); have n4_ := bg_ hg (below_size (hc_ HB.out GE233.out)); have n5_ := bn_ hg (blk_lt (bk_ BK233.out)); have n6_ := bm_ hg (blk_lt (bk_ BK233.out)); clear BK233; clear HB; have BK233 := n0_; have HB := n1_; have BK234 := n2_; have GW234 := n3_; have GE234 := n4_; have NB233_234 := n5_; have NB234_233 := n6_; clear n0_ n1_ n2_ n3_ n4_ n5_ n6_; clear hb hbox hg; have hnb38 := NB233_234.out; have hnc38 := NB234_233.out; obtain ⟨hcz39_0, hcz39_1, hcz39_2, hfz39_0, hfz39_1, hfz39_2⟩ := bc3_ BK233.out; obtain ⟨hcz40_0, hcz40_1, hcz40_2, hfz40_0, hfz40_1, hfz40_2⟩ := bc3_ BK234.out)); try go_wp2_with (first | ((with_reducible refine gate_dst (N := 3) rfl ?_); refine box_event ?hg (N := 3) ?hd (cs := #[.bool false, .int .i64 a0_1, .int .i64 a0_2]) (t := 26) ?hr ?_; (case hd => rfl); (case hg => rfl); (case hr => first | (go_simp; done) | (go_simp; rfl)); intro gb233 hg w36 hbox hb; have n0_ := Aside0.mk (below_step (hb_ HB.out) hb); have n1_ := Aside0.mk (hbox); have n2_ := bg_ hg (below_size (hb_ HB.out)); have n3_ := bg_ hg (below_size (hb_ HB.out)); clear HB; have HB := n0_; have BK233 := n1_; have GW233 := n2_; have GE233 := n3_; clear n0_ n1_ n2_ n3_; clear hb hbox hg) | ((with_reducible refine gate_dst (N := 6) rfl ?_); refine box_event ?hg (N := 6) ?hd (cs := #[.bool false, .int .i64 0, .int .i64 0]) (t := 26) ?hr ?_; (case hd => rfl); (case hg => rfl); (case hr => first | (go_simp; done) | (go_simp; rfl)); intro gb234 hg w37 hbox hb; have n0_ := Aside0.mk (blk_below (bk_ BK233.out) hb); have n1_ := Aside0.mk (below_step (hc_ HB.out GE233.out) hb); have n2_ := Aside0.mk (hbox); have n3_ := bg_ hg (below_size (hc_ HB.out GE233.out)); have n4_ := bg_ hg (below_size (hc_ HB.out GE233.out)); have n5_ := bn_ hg (blk_lt (bk_ BK233.out)); have n6_ := bm_ hg (blk_lt (bk_ BK233.out)); clear BK233; clear HB; have BK233 := n0_; have HB := n1_; have BK234 := n2_; have GW234 := n3_; have GE234 := n4_; have NB233_234 := n5_; have NB234_233 := n6_; clear n0_ n1_ n2_ n3_ n4_ n5_ n6_; clear hb hbox hg; have hnb38 := NB233_234.out; have hnc38 := NB234_233.out; obtain ⟨hcz39_0, hcz39_1, hcz39_2, hfz39_0, hfz39_1, hfz39_2⟩ := bc3_ BK233.out; obtain ⟨hcz40_0, hcz40_1, hcz40_2, hfz40_0, hfz40_1, hfz40_2⟩ := bc3_ BK234.out)))
    refine bodyPost_ret (results_cell_row rfl _ _ gb234 26 #[.bool false, .int .i64 0, .int .i64 (wrap64 (Go.bits .or .u64 (Go.bits .andNot .u64 (IntKind.u64.wrap (a0_2)) (ji34)) (ji34)))] (0, 0) _ rfl (by refine bk_ ?_; refine blk_put (cs := #[.bool false, .int .i64 0, .int .i64 0]) ?_ 2 _ rfl; refine bk_ ?_; refine blk_put (cs := #[.bool false, .int .i64 0, .int .i64 0]) ?_ 1 _ rfl; refine bk_ ?_; refine blk_put (cs := #[.bool false, .int .i64 0, .int .i64 0]) ?_ 0 _ rfl; refine bk_ ?_; exact BK234.out) Try.underlying26 rfl (by kernel_rfl)) rfl ?_
    exact ⟨by first | rfl | (simp [errW_none, errW_some] <;> rfl) | (simp only [← hji34]; first | rfl | (simp [errW_none, errW_some] <;> rfl)) | (simp [*, errW_none, errW_some] <;> rfl), hd_ HB.out GE233.out GE234.out⟩
   ·replace c35 := Bool.eq_false_iff.mpr c35
    subst c35
    have H1 : (some (false, 0, wrap64 (Go.bits .andNot .u64 (IntKind.u64.wrap (a0_2)) (ji34)))) = some (r1, r2, r3) := by rw [if_neg (show ¬ (false = true) by decide)] at H; exact H
    clear H
    have H := H1
    clear H1
    simp only [Option.some.injEq, Prod.mk.injEq] at H
    obtain ⟨rfl, rfl, rfl⟩ := H
    go_enter Try.func115, Try.ntmps115
    go_wp2_with (first | ((with_reducible refine gate_dst (N := 3) rfl ?_); refine box_event ?hg (N := 3) ?hd (cs := #[.bool false, .int .i64 a0_1, .int .i64 a0_2]) (t := 26) ?hr ?_; (case hd => rfl); (case hg => rfl); (case hr => first | (go_simp; done) | (go_simp; rfl)); intro gb233 hg w41 hbox hb; have n0_ := Aside0.mk (below_step (hb_ HB.out) hb); have n1_ := Aside0.mk (hbox); have n2_ := bg_ hg (below_size (hb_ HB.out)); have n3_ := bg_ hg (below_size (hb_ HB.out)); clear HB; have HB := n0_; have BK233 := n1_; have GW233 := n2_; have GE233 := n3_; clear n0_ n1_ n2_ n3_; clear hb hbox hg) | ((with_reducible refine gate_dst (N := 6) rfl ?_); refine box_event ?hg (N := 6) ?hd (cs := #[.bool false, .int .i64 0, .int .i64 0]) (t := 26) ?hr ?_; (case hd => rfl); (case hg => rfl); (case hr => first | (go_simp; done) | (go_simp; rfl)); intro gb234 hg w42 hbox hb; have n0_ := Aside0.mk (blk_below (bk_ BK233.out) hb); have n1_ := Aside0.mk (below_step (hc_ HB.out GE233.out) hb); have n2_ := Aside0.mk (hbox); have n3_ := bg_ hg (below_size (hc_ HB.out GE233.out)); have n4_ := bg_ hg (below_size (hc_ HB.out GE233.out)); have n5_ := bn_ hg (blk_lt (bk_ BK233.out)); have n6_ := bm_ hg (blk_lt (bk_ BK233.out)); clear BK233; clear HB; have BK233 := n0_; have HB := n1_; have BK234 := n2_; have GW234 := n3_; have GE234 := n4_; have NB233_234 := n5_; have NB234_233 := n6_; clear n0_ n1_ n2_ n3_ n4_ n5_ n6_; clear hb hbox hg; have hnb43 := NB233_234.out; have hnc43 := NB234_233.out; obtain ⟨hcz44_0, hcz44_1, hcz44_2, hfz44_0, hfz44_1, hfz44_2⟩ := bc3_ BK233.out; obtain ⟨hcz45_0, hcz45_1, hcz45_2, hfz45_0, hfz45_1, hfz45_2⟩ := bc3_ BK234.out))
    repeat (go_quiet (first | ((with_reducible refine gate_dst (N := 3) rfl ?_); refine box_event ?hg (N := 3) ?hd (cs := #[.bool false, .int .i64 a0_1, .int .i64 a0_2]) (t := 26) ?hr ?_; (case hd => rfl); (case hg => rfl); (case hr => first | (go_simp; done) | (go_simp; rfl)); intro gb233 hg w41 hbox hb; have n0_ := Aside0.mk (below_step (hb_ HB.out) hb); have n1_ := Aside0.mk (hbox); have n2_ := bg_ hg (below_size (hb_ HB.out)); have n3_ := bg_ hg (below_size (hb_ HB.out)); clear HB; have HB := n0_; have BK233 := n1_; have GW233 := n2_; have GE233 := n3_; clear n0_ n1_ n2_ n3_; clear hb hbox hg) | ((with_reducible refine gate_dst (N := 6) rfl ?_); refine box_event ?hg (N := 6) ?hd (cs := #[.bool false, .int .i64 0, .int .i64 0]) (t := 26) ?hr ?_; (case hd => rfl); (case hg => rfl); (case hr => first | (go_simp; done) | (go_simp; rfl)); intro gb234 hg w42 hbox hb; have n0_ := Aside0.mk (blk_below (bk_ BK233.out) hb); have n1_ := Aside0.mk (below_step (hc_ HB.out GE233.out) hb); have n2_ := Aside0.mk (hbox); have n3_ := bg_ hg (below_size (hc_ HB.out GE233.out)); have n4_ := bg_ hg (below_size (hc_ HB.out GE233.out)); have n5_ := bn_ hg (blk_lt (bk_ BK233.out)); have n6_ := bm_ hg (blk_lt (bk_ BK233.out)); clear BK233; clear HB; have BK233 := n0_; have HB := n1_; have BK234 := n2_; have GW234 := n3_; have GE234 := n4_; have NB233_234 := n5_; have NB234_233 := n6_; clear n0_ n1_ n2_ n3_ n4_ n5_ n6_; clear hb hbox hg; have hnb43 := NB233_234.out; have hnc43 := NB234_233.out; obtain ⟨hcz44_0, hcz44_1, hcz44_2, hfz44_0, hfz44_1, hfz44_2⟩ := bc3_ BK233.out; obtain ⟨hcz45_0, hcz45_1, hcz45_2, hfz45_0, hfz45_1, hfz45_2⟩ := bc3_ BK234.out)); try go_wp2_with (first | ((with_reducible refine gate_dst (N := 3) rfl ?_); refine box_event ?hg (N := 3) ?hd (cs := #[.bool false, .int .i64 a0_1, .int .i64 a0_2]) (t := 26) ?hr ?_; (case hd => rfl); (case hg => rfl); (case hr => first | (go_simp; done) | (go_simp; rfl)); intro gb233 hg w41 hbox hb; have n0_ := Aside0.mk (below_step (hb_ HB.out) hb); have n1_ := Aside0.mk (hbox); have n2_ := bg_ hg (below_size (hb_ HB.out)); have n3_ := bg_ hg (below_size (hb_ HB.out)); clear HB; have HB := n0_; have BK233 := n1_; have GW233 := n2_; have GE233 := n3_; clear n0_ n1_ n2_ n3_; clear hb hbox hg) | ((with_reducible refine gate_dst (N := 6) rfl ?_); refine box_event ?hg (N := 6) ?hd (cs := #[.bool false, .int .i64 0, .int .i64 0]) (t := 26) ?hr ?_; (case hd => rfl); (case hg => rfl); (case hr => first | (go_simp; done) | (go_simp; rfl)); intro gb234 hg w42 hbox hb; have n0_ := Aside0.mk (blk_below (bk_ BK233.out) hb); have n1_ := Aside0.mk (below_step (hc_ HB.out GE233.out) hb); have n2_ := Aside0.mk (hbox); have n3_ := bg_ hg (below_size (hc_ HB.out GE233.out)); have n4_ := bg_ hg (below_size (hc_ HB.out GE233.out)); have n5_ := bn_ hg (blk_lt (bk_ BK233.out)); have n6_ := bm_ hg (blk_lt (bk_ BK233.out)); clear BK233; clear HB; have BK233 := n0_; have HB := n1_; have BK234 := n2_; have GW234 := n3_; have GE234 := n4_; have NB233_234 := n5_; have NB234_233 := n6_; clear n0_ n1_ n2_ n3_ n4_ n5_ n6_; clear hb hbox hg; have hnb43 := NB233_234.out; have hnc43 := NB234_233.out; obtain ⟨hcz44_0, hcz44_1, hcz44_2, hfz44_0, hfz44_1, hfz44_2⟩ := bc3_ BK233.out; obtain ⟨hcz45_0, hcz45_1, hcz45_2, hfz45_0, hfz45_1, hfz45_2⟩ := bc3_ BK234.out)))
    refine bodyPost_ret (results_cell_row rfl _ _ gb234 26 #[.bool false, .int .i64 0, .int .i64 (wrap64 (Go.bits .andNot .u64 (IntKind.u64.wrap (a0_2)) (ji34)))] (0, 0) _ rfl (by refine bk_ ?_; refine blk_put (cs := #[.bool false, .int .i64 0, .int .i64 0]) ?_ 2 _ rfl; refine bk_ ?_; refine blk_put (cs := #[.bool false, .int .i64 0, .int .i64 0]) ?_ 1 _ rfl; refine bk_ ?_; refine blk_put (cs := #[.bool false, .int .i64 0, .int .i64 0]) ?_ 0 _ rfl; refine bk_ ?_; exact BK234.out) Try.underlying26 rfl (by kernel_rfl)) rfl ?_
    exact ⟨by first | rfl | (simp [errW_none, errW_some] <;> rfl) | (simp only [← hji34]; first | rfl | (simp [errW_none, errW_some] <;> rfl)) | (simp [*, errW_none, errW_some] <;> rfl), hd_ HB.out GE233.out GE234.out⟩
  ·rw [if_neg c33] at H
   exact absurd H (by simp)

end Go.Proofs.Ytigmadccchofiaa.QFnExactLargest
