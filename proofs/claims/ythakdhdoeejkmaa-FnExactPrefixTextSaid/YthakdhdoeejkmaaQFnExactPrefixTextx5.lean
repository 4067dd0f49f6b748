-- Written by a program of this session (wip/myprint.py); Lean checks it.
import Derived.Test.YthakdhdoeejkmaaQFnExactPrefixTextx0
import Derived.Test.YthakdhdoeejkmaaQFnExactPrefixTextx4
namespace Go.Proofs.Ythakdhdoeejkmaa.QFnExactPrefixText
open Go.RowKit Go.Proofs.YthakdhdoeejkmaaW.PrintWords Go.Proofs.YthakdhdoeejkmaaW.PrintLast Go.Proofs.YthakdhdoeejkmaaW.PrintMore
attribute [local go_sem] max2_int min2_int max_two min_two max_three min_three max_four min_four   -- for this text's walks alone
set_option linter.unusedVariables false
set_option linter.unusedSimpArgs false

attribute [local go_sem] isSome_setCell
/-! ### spec_AddrText: function 80 -/
mutual
def spec_AddrText.l1 : Nat → Int → Int → Int → Bool → Int → Int → Option (ByteArray)
  | 0, _, _, _, _, _, _ => none
  | k + 1, x5, x6, x7, x131000, x131001, x131002 => if x7 < 8 then (spec_AddrText.l2 k x5 x6 x7 0 x131000 x131001 x131002) else (spec_AddrText.l3 k x5 x6 (⟨#[]⟩ : ByteArray) 0 x131000 x131001 x131002)
def spec_AddrText.l2 : Nat → Int → Int → Int → Int → Bool → Int → Int → Option (ByteArray)
  | 0, _, _, _, _, _, _, _ => none
  | k + 1, x5, x6, x7, x8, x131000, x131001, x131002 => if (wrap64 (x7 + x8)) < 8 then ((spec_l1Group.f x131000 x131001 x131002 (wrap64 (x7 + x8))).bind fun t135 => (if t135 = 0 then (spec_AddrText.l2 k x5 x6 x7 (wrap64 (x8 + 1)) x131000 x131001 x131002) else (if x8 > x6 then (spec_AddrText.l1 k x7 x8 (wrap64 (x7 + 1)) x131000 x131001 x131002) else (spec_AddrText.l1 k x5 x6 (wrap64 (x7 + 1)) x131000 x131001 x131002)))) else (if x8 > x6 then (spec_AddrText.l1 k x7 x8 (wrap64 (x7 + 1)) x131000 x131001 x131002) else (spec_AddrText.l1 k x5 x6 (wrap64 (x7 + 1)) x131000 x131001 x131002))
def spec_AddrText.l3 : Nat → Int → Int → ByteArray → Int → Bool → Int → Int → Option (ByteArray)
  | 0, _, _, _, _, _, _, _ => none
  | k + 1, x5, x6, x9, x10, x131000, x131001, x131002 => if x10 < 8 then (if x10 = x5 then (if x9.size + 2 ≤ 9223372036854775807 then (spec_AddrText.l3 k x5 x6 (x9 ++ (⟨#[58, 58]⟩ : ByteArray)) (wrap64 ((wrap64 ((wrap64 (x10 + x6)) - 1)) + 1)) x131000 x131001 x131002) else (none)) else (if x10 > 0 then (spec_AddrText.j4 k x5 x6 x9 x10 (x10 != (wrap64 (x5 + x6))) x131000 x131001 x131002) else (spec_AddrText.j4 k x5 x6 x9 x10 false x131000 x131001 x131002))) else (some x9)
def spec_AddrText.j4 : Nat → Int → Int → ByteArray → Int → Bool → Bool → Int → Int → Option (ByteArray)
  | 0, _, _, _, _, _, _, _, _ => none
  | k + 1, x5, x6, x9, x10, x80, x131000, x131001, x131002 => if x80 = true then (if x9.size + 1 ≤ 9223372036854775807 then ((spec_l1Group.f x131000 x131001 x131002 x10).bind fun t136 => ((spec_l1Figures.f k t136 16).bind fun t137 => (if (x9 ++ (⟨#[58]⟩ : ByteArray)).size + t137.size ≤ 9223372036854775807 then (spec_AddrText.l3 k x5 x6 ((x9 ++ (⟨#[58]⟩ : ByteArray)) ++ t137) (wrap64 (x10 + 1)) x131000 x131001 x131002) else (none)))) else (none)) else ((spec_l1Group.f x131000 x131001 x131002 x10).bind fun t138 => ((spec_l1Figures.f k t138 16).bind fun t139 => (if x9.size + t139.size ≤ 9223372036854775807 then (spec_AddrText.l3 k x5 x6 (x9 ++ t139) (wrap64 (x10 + 1)) x131000 x131001 x131002) else (none))))
def spec_AddrText.l0 : Nat → ByteArray → Int → Bool → Int → Int → Option (ByteArray)
  | 0, _, _, _, _, _ => none
  | k + 1, x3, x4, x131000, x131001, x131002 => if x4 ≥ 0 then (if 0 ≤ (IntKind.u64.wrap (wrap64 (8 * x4))) then ((spec_l1Figures.f k (Go.bits .and .u64 (shr .u64 (IntKind.u64.wrap (x131002)) (IntKind.u64.wrap (wrap64 (8 * x4)))) 255) 10).bind fun t134 => (if x3.size + t134.size ≤ 9223372036854775807 then (if x4 > 0 then (if (x3 ++ t134).size + 1 ≤ 9223372036854775807 then (spec_AddrText.l0 k ((x3 ++ t134) ++ (⟨#[46]⟩ : ByteArray)) (wrap64 (x4 - 1)) x131000 x131001 x131002) else (none)) else (spec_AddrText.l0 k (x3 ++ t134) (wrap64 (x4 - 1)) x131000 x131001 x131002)) else (none))) else (none)) else (some x3)
end
def spec_AddrText.f (k : Nat) (a0_0 : Bool) (a0_1 : Int) (a0_2 : Int) : Option (ByteArray) := (spec_l1Addr.f a0_0 a0_1 a0_2).bind fun bt131 => (if bt131.1 = true then (spec_AddrText.l1 k 8 1 0 bt131.1 bt131.2.1 bt131.2.2) else (spec_AddrText.l0 k (⟨#[]⟩ : ByteArray) 3 bt131.1 bt131.2.1 bt131.2.2))
theorem spec_AddrText.mono_l : ∀ k, (∀ y0 y1 y2 y3 y4 y5, LeO (spec_AddrText.l1 k y0 y1 y2 y3 y4 y5) (spec_AddrText.l1 (k + 1) y0 y1 y2 y3 y4 y5)) ∧ (∀ y0 y1 y2 y3 y4 y5 y6, LeO (spec_AddrText.l2 k y0 y1 y2 y3 y4 y5 y6) (spec_AddrText.l2 (k + 1) y0 y1 y2 y3 y4 y5 y6)) ∧ (∀ y0 y1 y2 y3 y4 y5 y6, LeO (spec_AddrText.l3 k y0 y1 y2 y3 y4 y5 y6) (spec_AddrText.l3 (k + 1) y0 y1 y2 y3 y4 y5 y6)) ∧ (∀ y0 y1 y2 y3 y4 y5 y6 y7, LeO (spec_AddrText.j4 k y0 y1 y2 y3 y4 y5 y6 y7) (spec_AddrText.j4 (k + 1) y0 y1 y2 y3 y4 y5 y6 y7)) ∧ (∀ y0 y1 y2 y3 y4, LeO (spec_AddrText.l0 k y0 y1 y2 y3 y4) (spec_AddrText.l0 (k + 1) y0 y1 y2 y3 y4))
  | 0 => ⟨fun _ _ _ _ _ _ r h => by simp [spec_AddrText.l1] at h, fun _ _ _ _ _ _ _ r h => by simp [spec_AddrText.l2] at h, fun _ _ _ _ _ _ _ r h => by simp [spec_AddrText.l3] at h, fun _ _ _ _ _ _ _ _ r h => by simp [spec_AddrText.j4] at h, fun _ _ _ _ _ r h => by simp [spec_AddrText.l0] at h⟩
  | k + 1 => by
    obtain ⟨ih0, ih1, ih2, ih3, ih4⟩ := spec_AddrText.mono_l k
    refine ⟨?_, ?_, ?_, ?_, ?_⟩
    · intro y0 y1 y2 y3 y4 y5
      unfold spec_AddrText.l1
      repeat' first
      | (with_reducible exact ih0 _ _ _ _ _ _)
      | (with_reducible exact ih1 _ _ _ _ _ _ _)
      | (with_reducible exact ih2 _ _ _ _ _ _ _)
      | (with_reducible exact ih3 _ _ _ _ _ _ _ _)
      | (with_reducible exact ih4 _ _ _ _ _)
      | (with_reducible exact spec_l1Figures.mono _ _ _)
      | (with_reducible exact LeO.refl _)
      | (with_reducible exact LeO.none _)
      | (with_reducible refine LeO.ite ?_ ?_)
      | (with_reducible refine LeO.bind ?_ (fun _ => ?_))
      | exact ih0 _ _ _ _ _ _
      | exact ih1 _ _ _ _ _ _ _
      | exact ih2 _ _ _ _ _ _ _
      | exact ih3 _ _ _ _ _ _ _ _
      | exact ih4 _ _ _ _ _
      | exact spec_l1Figures.mono _ _ _
      | exact LeO.none _
      | refine LeO.ite ?_ ?_
      | refine LeO.bind ?_ (fun _ => ?_)
    · intro y0 y1 y2 y3 y4 y5 y6
      unfold spec_AddrText.l2
      repeat' first
      | (with_reducible exact ih0 _ _ _ _ _ _)
      | (with_reducible exact ih1 _ _ _ _ _ _ _)
      | (with_reducible exact ih2 _ _ _ _ _ _ _)
      | (with_reducible exact ih3 _ _ _ _ _ _ _ _)
      | (with_reducible exact ih4 _ _ _ _ _)
      | (with_reducible exact spec_l1Figures.mono _ _ _)
      | (with_reducible exact LeO.refl _)
      | (with_reducible exact LeO.none _)
      | (with_reducible refine LeO.ite ?_ ?_)
      | (with_reducible refine LeO.bind ?_ (fun _ => ?_))
      | exact ih0 _ _ _ _ _ _
      | exact ih1 _ _ _ _ _ _ _
      | exact ih2 _ _ _ _ _ _ _
      | exact ih3 _ _ _ _ _ _ _ _
      | exact ih4 _ _ _ _ _
      | exact spec_l1Figures.mono _ _ _
      | exact LeO.none _
      | refine LeO.ite ?_ ?_
      | refine LeO.bind ?_ (fun _ => ?_)
    · intro y0 y1 y2 y3 y4 y5 y6
      unfold spec_AddrText.l3
      repeat' first
      | (with_reducible exact ih0 _ _ _ _ _ _)
      | (with_reducible exact ih1 _ _ _ _ _ _ _)
      | (with_reducible exact ih2 _ _ _ _ _ _ _)
      | (with_reducible exact ih3 _ _ _ _ _ _ _ _)
      | (with_reducible exact ih4 _ _ _ _ _)
      | (with_reducible exact spec_l1Figures.mono _ _ _)
      | (with_reducible exact LeO.refl _)
      | (with_reducible exact LeO.none _)
      | (with_reducible refine LeO.ite ?_ ?_)
      | (with_reducible refine LeO.bind ?_ (fun _ => ?_))
      | exact ih0 _ _ _ _ _ _
      | exact ih1 _ _ _ _ _ _ _
      | exact ih2 _ _ _ _ _ _ _
      | exact ih3 _ _ _ _ _ _ _ _
      | exact ih4 _ _ _ _ _
      | exact spec_l1Figures.mono _ _ _
      | exact LeO.none _
      | refine LeO.ite ?_ ?_
      | refine LeO.bind ?_ (fun _ => ?_)
    · intro y0 y1 y2 y3 y4 y5 y6 y7
      unfold spec_AddrText.j4
      repeat' first
      | (with_reducible exact ih0 _ _ _ _ _ _)
      | (with_reducible exact ih1 _ _ _ _ _ _ _)
      | (with_reducible exact ih2 _ _ _ _ _ _ _)
      | (with_reducible exact ih3 _ _ _ _ _ _ _ _)
      | (with_reducible exact ih4 _ _ _ _ _)
      | (with_reducible exact spec_l1Figures.mono _ _ _)
      | (with_reducible exact LeO.refl _)
      | (with_reducible exact LeO.none _)
      | (with_reducible refine LeO.ite ?_ ?_)
      | (with_reducible refine LeO.bind ?_ (fun _ => ?_))
      | exact ih0 _ _ _ _ _ _
      | exact ih1 _ _ _ _ _ _ _
      | exact ih2 _ _ _ _ _ _ _
      | exact ih3 _ _ _ _ _ _ _ _
      | exact ih4 _ _ _ _ _
      | exact spec_l1Figures.mono _ _ _
      | exact LeO.none _
      | refine LeO.ite ?_ ?_
      | refine LeO.bind ?_ (fun _ => ?_)
    · intro y0 y1 y2 y3 y4
      unfold spec_AddrText.l0
      repeat' first
      | (with_reducible exact ih0 _ _ _ _ _ _)
      | (with_reducible exact ih1 _ _ _ _ _ _ _)
      | (with_reducible exact ih2 _ _ _ _ _ _ _)
      | (with_reducible exact ih3 _ _ _ _ _ _ _ _)
      | (with_reducible exact ih4 _ _ _ _ _)
      | (with_reducible exact spec_l1Figures.mono _ _ _)
      | (with_reducible exact LeO.refl _)
      | (with_reducible exact LeO.none _)
      | (with_reducible refine LeO.ite ?_ ?_)
      | (with_reducible refine LeO.bind ?_ (fun _ => ?_))
      | exact ih0 _ _ _ _ _ _
      | exact ih1 _ _ _ _ _ _ _
      | exact ih2 _ _ _ _ _ _ _
      | exact ih3 _ _ _ _ _ _ _ _
      | exact ih4 _ _ _ _ _
      | exact spec_l1Figures.mono _ _ _
      | exact LeO.none _
      | refine LeO.ite ?_ ?_
      | refine LeO.bind ?_ (fun _ => ?_)
theorem spec_AddrText.mono : ∀ a0 a1 a2 k, LeO (spec_AddrText.f k a0 a1 a2) (spec_AddrText.f (k + 1) a0 a1 a2) := by
  intro a0 a1 a2 k
  obtain ⟨ih0, ih1, ih2, ih3, ih4⟩ := spec_AddrText.mono_l k
  unfold spec_AddrText.f
  repeat' first
      | (with_reducible exact ih0 _ _ _ _ _ _)
      | (with_reducible exact ih1 _ _ _ _ _ _ _)
      | (with_reducible exact ih2 _ _ _ _ _ _ _)
      | (with_reducible exact ih3 _ _ _ _ _ _ _ _)
      | (with_reducible exact ih4 _ _ _ _ _)
      | (with_reducible exact spec_l1Figures.mono _ _ _)
      | (with_reducible exact LeO.refl _)
      | (with_reducible exact LeO.none _)
      | (with_reducible refine LeO.ite ?_ ?_)
      | (with_reducible refine LeO.bind ?_ (fun _ => ?_))
      | exact ih0 _ _ _ _ _ _
      | exact ih1 _ _ _ _ _ _ _
      | exact ih2 _ _ _ _ _ _ _
      | exact ih3 _ _ _ _ _ _ _ _
      | exact ih4 _ _ _ _ _
      | exact spec_l1Figures.mono _ _ _
      | exact LeO.none _
      | refine LeO.ite ?_ ?_
      | refine LeO.bind ?_ (fun _ => ?_)
set_option maxHeartbeats 8000000 in
set_option maxRecDepth 100000 in
theorem spec_AddrText.calls (k : Nat) (a0_0 : Bool) (a0_1 : Int) (a0_2 : Int) (r : ByteArray) (w : World) (h : spec_AddrText.f k a0_0 a0_1 a0_2 = some r) :
    Calls Try.prog 80 #[.agg #[.bool a0_0, .int .i64 a0_1, .int .i64 a0_2]] w fun e w' => e = .returned (.string r) ∧ Below w.heap.size w w' := by
  have hu29 := Try.underlying29
  have HB := Aside0.mk (Below.refl w.heap.size w)
  have H : ((spec_l1Addr.f a0_0 a0_1 a0_2).bind fun bt131 => (if bt131.1 = true then (spec_AddrText.l1 k 8 1 0 bt131.1 bt131.2.1 bt131.2.2) else (spec_AddrText.l0 k (⟨#[]⟩ : ByteArray) 3 bt131.1 bt131.2.1 bt131.2.2))) = some r := h
  clear h
  replace H := Option.bind_eq_some_iff.mp H
  obtain ⟨⟨t131, t132, t133⟩, A20, H⟩ := H
  replace H : (if t131 = true then (spec_AddrText.l1 k 8 1 0 t131 t132 t133) else (spec_AddrText.l0 k (⟨#[]⟩ : ByteArray) 3 t131 t132 t133)) = some r := H
  have A2 := Aside0.mk A20
  clear A20
  by_cases c3 : t131 = true
  · subst c3
    have H1 : (spec_AddrText.l1 k 8 1 0 true t132 t133) = some r := by rw [if_pos rfl] at H; exact H
    clear H
    have H := H1
    clear H1
    have H' := Aside0.mk H
    clear H
    go_enter Try.func80, Try.ntmps80
    go_wp2_with (first | ((with_reducible refine gate_dst (N := 1) rfl ?_); refine box_event ?hg (N := 1) ?hd (cs := #[.bool a0_0, .int .i64 a0_1, .int .i64 a0_2]) (t := 29) ?hr ?_; (case hd => rfl); (case hg => rfl); (case hr => first | (go_simp; done) | (go_simp; rfl)); intro gb130 hg w4 hbox hb; have n0_ := Aside0.mk (below_step (by repeat (first | (with_reducible first | exact HB.out | apply below_alloc | apply pw_below_drewN | apply below_drew1) | exact HB.out)) hb); have n1_ := Aside0.mk (hbox); have n2_ := Aside0.mk ((by rw [hg]; exact (below_size (by repeat (first | (with_reducible first | exact HB.out | apply below_alloc | apply pw_below_drewN | apply below_drew1) | exact HB.out))) : w.heap.size ≤ gb130)); have n3_ := Aside0.mk ((by rw [hg]; exact (below_size (by repeat (first | (with_reducible first | exact HB.out | apply below_alloc | apply pw_below_drewN | apply below_drew1) | exact HB.out))) : w.heap.size ≤ gb130)); clear HB; have HB := n0_; have BK130 := n1_; have GW130 := n2_; have GE130 := n3_; clear n0_ n1_ n2_ n3_; clear hb hbox hg; have hcz5_0 : w4.cell? ⟨gb130, 0, none⟩ = some (.bool a0_0) := (blk_cell BK130.out 0).trans rfl; have hcz5_1 : w4.cell? ⟨gb130, 1, none⟩ = some (.int .i64 a0_1) := (blk_cell BK130.out 1).trans rfl; have hcz5_2 : w4.cell? ⟨gb130, 2, none⟩ = some (.int .i64 a0_2) := (blk_cell BK130.out 2).trans rfl; have hfz5_0 := blk_frozen BK130.out 0; have hfz5_1 := blk_frozen BK130.out 1; have hfz5_2 := blk_frozen BK130.out 2) | ((with_reducible refine gate_callee (f := 141) rfl ?_); refine goesL_ (some 12) rfl rfl Try.func141 (by kernel_rfl) rfl #[.agg #[.bool a0_0, .int .i64 a0_1, .int .i64 a0_2]] rfl (by (try simp only [List.map_toArray, List.map_cons, List.map_nil]); first | done | rfl | (simp only [List.length_drop, List.length_take]; rfl)) ?_; (with_reducible refine (spec_l1Addr.calls a0_0 a0_1 a0_2 true t132 t133 _ A2.out).mono ?_); rintro e w6 ⟨rfl, hb⟩; refine ⟨_, rfl, ?_⟩; have n0_ := Aside0.mk (blk_below (g := gb130) (o := .cells #[.bool a0_0, .int .i64 a0_1, .int .i64 a0_2] 29 (0, 0)) (by (with_reducible repeat (first | refine blk_drewN ?_ _ | refine blk_drew ?_ | refine blk_alloc ?_ _)); exact BK130.out) hb); have n1_ := Aside0.mk (below_step (by repeat (first | (with_reducible first | exact HB.out | apply below_alloc | apply pw_below_drewN | apply below_drew1 | refine below_set ?_ GE130.out) | exact HB.out)) hb); clear BK130; clear HB; have BK130 := n0_; have HB := n1_; clear n0_ n1_; (try clear hb); (try clear hb2); (try clear hk); (try clear hi); have hcz7_0 : w6.cell? ⟨gb130, 0, none⟩ = some (.bool a0_0) := (blk_cell BK130.out 0).trans rfl; have hcz7_1 : w6.cell? ⟨gb130, 1, none⟩ = some (.int .i64 a0_1) := (blk_cell BK130.out 1).trans rfl; have hcz7_2 : w6.cell? ⟨gb130, 2, none⟩ = some (.int .i64 a0_2) := (blk_cell BK130.out 2).trans rfl; have hfz7_0 := blk_frozen BK130.out 0; have hfz7_1 := blk_frozen BK130.out 1; have hfz7_2 := blk_frozen BK130.out 2))
    go_loopg [5, 6, 7] k (fun kq v5 v6 v7 w' => ∃ (x5_1 : Int) (x6_1 : Int) (x7_1 : Int), v5 = .int .i64 x5_1 ∧ v6 = .int .i64 x6_1 ∧ v7 = .int .i64 x7_1 ∧ Aside0 (spec_AddrText.l1 kq x5_1 x6_1 x7_1 true t132 t133 = some r) ∧ Aside0 (kq ≤ k) ∧ Aside0 (w'.heap[gb130]? = some (.cells #[.bool true, .int .i64 t132, .int .i64 t133] 29 (0, 0))) ∧ Aside0 (Below w.heap.size w w'))
    case atStart => exact ⟨(8), (1), (0), (by first | rfl | (simp; done) | (simp [*]; done)), (by first | rfl | (simp; done) | (simp [*]; done)), (by first | rfl | (simp; done) | (simp [*]; done)), H', ⟨Nat.le_refl _⟩, ⟨by (with_reducible repeat (first | refine blk_drewN ?_ _ | refine blk_drew ?_ | refine blk_alloc ?_ _)); refine blk_put (cs := #[.bool true, .int .i64 t132, .int .i64 a0_2]) ?_ 2 _ rfl; (with_reducible repeat (first | refine blk_drewN ?_ _ | refine blk_drew ?_ | refine blk_alloc ?_ _)); refine blk_put (cs := #[.bool true, .int .i64 a0_1, .int .i64 a0_2]) ?_ 1 _ rfl; (with_reducible repeat (first | refine blk_drewN ?_ _ | refine blk_drew ?_ | refine blk_alloc ?_ _)); refine blk_put (cs := #[.bool a0_0, .int .i64 a0_1, .int .i64 a0_2]) ?_ 0 _ rfl; (with_reducible repeat (first | refine blk_drewN ?_ _ | refine blk_drew ?_ | refine blk_alloc ?_ _)); exact BK130.out⟩, ⟨by repeat (first | (with_reducible first | exact HB.out | apply below_alloc | apply pw_below_drewN | apply below_drew1 | refine below_set ?_ GE130.out) | exact HB.out)⟩⟩
    case round =>
      clear H'
      try clear c1
      try clear p2
      try clear c3
      try clear hcz5_0
      try clear hcz5_1
      try clear hcz5_2
      try clear hcz7_0
      try clear hcz7_1
      try clear hcz7_2
      try clear hfz5_0
      try clear hfz5_1
      try clear hfz5_2
      try clear hfz7_0
      try clear hfz7_1
      try clear hfz7_2
      obtain ⟨x5_1, x6_1, x7_1, rfl, rfl, rfl, HA, HK1, BK130, HB⟩ := hrel
      cases gk with
      | zero => exact absurd HA.out (by simp [spec_AddrText.l1])
      | succ k1 =>
        have H := HA.out
        clear HA
        simp only [spec_AddrText.l1] at H
        by_cases c8 : x7_1 < 8
        · rw [if_pos c8] at H
          have c8b0 : decide (x7_1 < 8) = true := decide_eq_true c8
          clear c8
          have H' := Aside0.mk H
          clear H
          go_wp2
          go_loopg [8] k1 (fun kq v8 w' => ∃ (x8_2 : Int), v8 = .int .i64 x8_2 ∧ Aside0 (spec_AddrText.l2 kq x5_1 x6_1 x7_1 x8_2 true t132 t133 = some r) ∧ Aside0 (kq ≤ k1) ∧ Aside0 (w'.heap[gb130]? = some (.cells #[.bool true, .int .i64 t132, .int .i64 t133] 29 (0, 0))) ∧ Aside0 (Below w.heap.size w w'))
          case atStart => exact ⟨(0), (by first | rfl | (simp; done) | (simp [*]; done)), H', ⟨Nat.le_refl _⟩, ⟨by (with_reducible repeat (first | refine blk_drewN ?_ _ | refine blk_drew ?_ | refine blk_alloc ?_ _)); exact BK130.out⟩, ⟨by repeat (first | (with_reducible first | exact HB.out | apply below_alloc | apply pw_below_drewN | apply below_drew1 | refine below_set ?_ GE130.out) | exact HB.out)⟩⟩
          case round =>
            clear H'
            try clear c1
            try clear p2
            try clear c3
            try clear c8
            try clear c8b0
            try clear hcz5_0
            try clear hcz5_1
            try clear hcz5_2
            try clear hcz7_0
            try clear hcz7_1
            try clear hcz7_2
            try clear hfz5_0
            try clear hfz5_1
            try clear hfz5_2
            try clear hfz7_0
            try clear hfz7_1
            try clear hfz7_2
            try clear p2
            obtain ⟨x8_2, rfl, HA, HK2, BK130, HB⟩ := hrel
            cases gk with
            | zero => exact absurd HA.out (by simp [spec_AddrText.l2])
            | succ k2 =>
              have H := HA.out
              clear HA
              simp only [spec_AddrText.l2] at H
              by_cases c9 : (wrap64 (x7_1 + x8_2)) < 8
              · rw [if_pos c9] at H
                have c9b0 : decide ((wrap64 (x7_1 + x8_2)) < 8) = true := decide_eq_true c9
                clear c9
                replace H := Option.bind_eq_some_iff.mp H
                obtain ⟨t135, A100, H⟩ := H
                replace H : (if t135 = 0 then (spec_AddrText.l2 k2 x5_1 x6_1 x7_1 (wrap64 (x8_2 + 1)) true t132 t133) else (if x8_2 > x6_1 then (spec_AddrText.l1 k2 x7_1 x8_2 (wrap64 (x7_1 + 1)) true t132 t133) else (spec_AddrText.l1 k2 x5_1 x6_1 (wrap64 (x7_1 + 1)) true t132 t133))) = some r := H
                have A10 := Aside0.mk A100
                clear A100
                by_cases c11 : t135 = 0
                · rw [if_pos c11] at H
                  have c11b0 : (t135 == 0) = true := beq_iff_eq.mpr c11
                  have c11b1 : (t135 != 0) = false := bne_eq_false_iff_eq.mpr c11
                  clear c11
                  have H' := Aside0.mk H
                  clear H
                  have hcz12_0 : wr.cell? ⟨gb130, 0, none⟩ = some (.bool true) := (blk_cell BK130.out 0).trans rfl
                  have hcz12_1 : wr.cell? ⟨gb130, 1, none⟩ = some (.int .i64 t132) := (blk_cell BK130.out 1).trans rfl
                  have hcz12_2 : wr.cell? ⟨gb130, 2, none⟩ = some (.int .i64 t133) := (blk_cell BK130.out 2).trans rfl
                  have hfz12_0 := blk_frozen BK130.out 0
                  have hfz12_1 := blk_frozen BK130.out 1
                  have hfz12_2 := blk_frozen BK130.out 2
                  go_wp2_with (first | (go_at_call 142; (with_reducible refine (spec_l1Group.calls true t132 t133 (wrap64 (x7_1 + x8_2)) t135 _ A10.out).mono ?_); rintro e w13 ⟨rfl, hb⟩; have n0_ := Aside0.mk (blk_below (g := gb130) (o := .cells #[.bool true, .int .i64 t132, .int .i64 t133] 29 (0, 0)) (by (with_reducible repeat (first | refine blk_drewN ?_ _ | refine blk_drew ?_ | refine blk_alloc ?_ _)); exact BK130.out) hb); have n1_ := Aside0.mk (below_step (by repeat (first | (with_reducible first | exact HB.out | apply below_alloc | apply pw_below_drewN | apply below_drew1 | refine below_set ?_ GE130.out) | exact HB.out)) hb); clear BK130; clear HB; have BK130 := n0_; have HB := n1_; clear n0_ n1_; (try clear hb); (try clear hb2); (try clear hk); (try clear hi)))
                  go_roundg k2
                  case measure => have := HK1.out; have := HK2.out; omega
                  case rel => exact ⟨(wrap64 (x8_2 + 1)), (by first | rfl | (simp; done) | (simp [*]; done)), H', ⟨by have := HK1.out; have := HK2.out; omega⟩, ⟨by (with_reducible repeat (first | refine blk_drewN ?_ _ | refine blk_drew ?_ | refine blk_alloc ?_ _)); exact BK130.out⟩, ⟨by repeat (first | (with_reducible first | exact HB.out | apply below_alloc | apply pw_below_drewN | apply below_drew1 | refine below_set ?_ GE130.out) | exact HB.out)⟩⟩
                · rw [if_neg c11] at H
                  have c11b0 : (t135 == 0) = false := beq_eq_false_iff_ne.mpr c11
                  have c11b1 : (t135 != 0) = true := bne_iff_ne.mpr c11
                  by_cases c14 : x8_2 > x6_1
                  · rw [if_pos c14] at H
                    have c14b0 : decide (x6_1 < x8_2) = true := decide_eq_true c14
                    clear c14
                    have H' := Aside0.mk H
                    clear H
                    have hcz15_0 : wr.cell? ⟨gb130, 0, none⟩ = some (.bool true) := (blk_cell BK130.out 0).trans rfl
                    have hcz15_1 : wr.cell? ⟨gb130, 1, none⟩ = some (.int .i64 t132) := (blk_cell BK130.out 1).trans rfl
                    have hcz15_2 : wr.cell? ⟨gb130, 2, none⟩ = some (.int .i64 t133) := (blk_cell BK130.out 2).trans rfl
                    have hfz15_0 := blk_frozen BK130.out 0
                    have hfz15_1 := blk_frozen BK130.out 1
                    have hfz15_2 := blk_frozen BK130.out 2
                    go_wp2_with (first | (go_at_call 142; (with_reducible refine (spec_l1Group.calls true t132 t133 (wrap64 (x7_1 + x8_2)) t135 _ A10.out).mono ?_); rintro e w16 ⟨rfl, hb⟩; have n0_ := Aside0.mk (blk_below (g := gb130) (o := .cells #[.bool true, .int .i64 t132, .int .i64 t133] 29 (0, 0)) (by (with_reducible repeat (first | refine blk_drewN ?_ _ | refine blk_drew ?_ | refine blk_alloc ?_ _)); exact BK130.out) hb); have n1_ := Aside0.mk (below_step (by repeat (first | (with_reducible first | exact HB.out | apply below_alloc | apply pw_below_drewN | apply below_drew1 | refine below_set ?_ GE130.out) | exact HB.out)) hb); clear BK130; clear HB; have BK130 := n0_; have HB := n1_; clear n0_ n1_; (try clear hb); (try clear hb2); (try clear hk); (try clear hi)))
                    go_roundg k2
                    case measure => have := HK1.out; have := HK2.out; omega
                    case rel => exact ⟨(x7_1), (x8_2), (wrap64 (x7_1 + 1)), (by first | rfl | (simp; done) | (simp [*]; done)), (by first | rfl | (simp; done) | (simp [*]; done)), (by first | rfl | (simp; done) | (simp [*]; done)), H', ⟨by have := HK1.out; have := HK2.out; omega⟩, ⟨by (with_reducible repeat (first | refine blk_drewN ?_ _ | refine blk_drew ?_ | refine blk_alloc ?_ _)); exact BK130.out⟩, ⟨by repeat (first | (with_reducible first | exact HB.out | apply below_alloc | apply pw_below_drewN | apply below_drew1 | refine below_set ?_ GE130.out) | exact HB.out)⟩⟩
                  · rw [if_neg c14] at H
                    have c14b0 : decide (x6_1 < x8_2) = false := decide_eq_false c14
                    clear c14
                    have H' := Aside0.mk H
                    clear H
                    have hcz17_0 : wr.cell? ⟨gb130, 0, none⟩ = some (.bool true) := (blk_cell BK130.out 0).trans rfl
                    have hcz17_1 : wr.cell? ⟨gb130, 1, none⟩ = some (.int .i64 t132) := (blk_cell BK130.out 1).trans rfl
                    have hcz17_2 : wr.cell? ⟨gb130, 2, none⟩ = some (.int .i64 t133) := (blk_cell BK130.out 2).trans rfl
                    have hfz17_0 := blk_frozen BK130.out 0
                    have hfz17_1 := blk_frozen BK130.out 1
                    have hfz17_2 := blk_frozen BK130.out 2
                    go_wp2_with (first | (go_at_call 142; (with_reducible refine (spec_l1Group.calls true t132 t133 (wrap64 (x7_1 + x8_2)) t135 _ A10.out).mono ?_); rintro e w18 ⟨rfl, hb⟩; have n0_ := Aside0.mk (blk_below (g := gb130) (o := .cells #[.bool true, .int .i64 t132, .int .i64 t133] 29 (0, 0)) (by (with_reducible repeat (first | refine blk_drewN ?_ _ | refine blk_drew ?_ | refine blk_alloc ?_ _)); exact BK130.out) hb); have n1_ := Aside0.mk (below_step (by repeat (first | (with_reducible first | exact HB.out | apply below_alloc | apply pw_below_drewN | apply below_drew1 | refine below_set ?_ GE130.out) | exact HB.out)) hb); clear BK130; clear HB; have BK130 := n0_; have HB := n1_; clear n0_ n1_; (try clear hb); (try clear hb2); (try clear hk); (try clear hi)))
                    go_roundg k2
                    case measure => have := HK1.out; have := HK2.out; omega
                    case rel => exact ⟨(x5_1), (x6_1), (wrap64 (x7_1 + 1)), (by first | rfl | (simp; done) | (simp [*]; done)), (by first | rfl | (simp; done) | (simp [*]; done)), (by first | rfl | (simp; done) | (simp [*]; done)), H', ⟨by have := HK1.out; have := HK2.out; omega⟩, ⟨by (with_reducible repeat (first | refine blk_drewN ?_ _ | refine blk_drew ?_ | refine blk_alloc ?_ _)); exact BK130.out⟩, ⟨by repeat (first | (with_reducible first | exact HB.out | apply below_alloc | apply pw_below_drewN | apply below_drew1 | refine below_set ?_ GE130.out) | exact HB.out)⟩⟩
              · rw [if_neg c9] at H
                have c9b0 : decide ((wrap64 (x7_1 + x8_2)) < 8) = false := decide_eq_false c9
                clear c9
                by_cases c19 : x8_2 > x6_1
                · rw [if_pos c19] at H
                  have c19b0 : decide (x6_1 < x8_2) = true := decide_eq_true c19
                  clear c19
                  have H' := Aside0.mk H
                  clear H
                  go_wp2
                  go_roundg k2
                  case measure => have := HK1.out; have := HK2.out; omega
                  case rel => exact ⟨(x7_1), (x8_2), (wrap64 (x7_1 + 1)), (by first | rfl | (simp; done) | (simp [*]; done)), (by first | rfl | (simp; done) | (simp [*]; done)), (by first | rfl | (simp; done) | (simp [*]; done)), H', ⟨by have := HK1.out; have := HK2.out; omega⟩, ⟨by (with_reducible repeat (first | refine blk_drewN ?_ _ | refine blk_drew ?_ | refine blk_alloc ?_ _)); exact BK130.out⟩, ⟨by repeat (first | (with_reducible first | exact HB.out | apply below_alloc | apply pw_below_drewN | apply below_drew1 | refine below_set ?_ GE130.out) | exact HB.out)⟩⟩
                · rw [if_neg c19] at H
                  have c19b0 : decide (x6_1 < x8_2) = false := decide_eq_false c19
                  clear c19
                  have H' := Aside0.mk H
                  clear H
                  go_wp2
                  go_roundg k2
                  case measure => have := HK1.out; have := HK2.out; omega
                  case rel => exact ⟨(x5_1), (x6_1), (wrap64 (x7_1 + 1)), (by first | rfl | (simp; done) | (simp [*]; done)), (by first | rfl | (simp; done) | (simp [*]; done)), (by first | rfl | (simp; done) | (simp [*]; done)), H', ⟨by have := HK1.out; have := HK2.out; omega⟩, ⟨by (with_reducible repeat (first | refine blk_drewN ?_ _ | refine blk_drew ?_ | refine blk_alloc ?_ _)); exact BK130.out⟩, ⟨by repeat (first | (with_reducible first | exact HB.out | apply below_alloc | apply pw_below_drewN | apply below_drew1 | refine below_set ?_ GE130.out) | exact HB.out)⟩⟩
        · rw [if_neg c8] at H
          have c8b0 : decide (x7_1 < 8) = false := decide_eq_false c8
          clear c8
          have H' := Aside0.mk H
          clear H
          go_wp2
          go_loopg [9, 10] k1 (fun kq v9 v10 w' => ∃ (x9_2 : ByteArray) (x10_2 : Int), v9 = .string x9_2 ∧ v10 = .int .i64 x10_2 ∧ Aside0 (spec_AddrText.l3 kq x5_1 x6_1 x9_2 x10_2 true t132 t133 = some r) ∧ Aside0 (kq ≤ k1) ∧ Aside0 (w'.heap[gb130]? = some (.cells #[.bool true, .int .i64 t132, .int .i64 t133] 29 (0, 0))) ∧ Aside0 (Below w.heap.size w w'))
          case atStart => exact ⟨((⟨#[]⟩ : ByteArray)), (0), (by first | rfl | (simp; done) | (simp [*]; done)), (by first | rfl | (simp; done) | (simp [*]; done)), H', ⟨Nat.le_refl _⟩, ⟨by (with_reducible repeat (first | refine blk_drewN ?_ _ | refine blk_drew ?_ | refine blk_alloc ?_ _)); exact BK130.out⟩, ⟨by repeat (first | (with_reducible first | exact HB.out | apply below_alloc | apply pw_below_drewN | apply below_drew1 | refine below_set ?_ GE130.out) | exact HB.out)⟩⟩
          case round =>
            clear H'
            try clear c1
            try clear p2
            try clear c3
            try clear p6
            try clear c8
            try clear c8b0
            try clear c9
            try clear c9b0
            try clear c11
            try clear c11b0
            try clear c11b1
            try clear c14
            try clear c14b0
            try clear c19
            try clear c19b0
            try clear hcz12_0
            try clear hcz12_1
            try clear hcz12_2
            try clear hcz15_0
            try clear hcz15_1
            try clear hcz15_2
            try clear hcz17_0
            try clear hcz17_1
            try clear hcz17_2
            try clear hcz5_0
            try clear hcz5_1
            try clear hcz5_2
            try clear hcz7_0
            try clear hcz7_1
            try clear hcz7_2
            try clear hfz12_0
            try clear hfz12_1
            try clear hfz12_2
            try clear hfz15_0
            try clear hfz15_1
            try clear hfz15_2
            try clear hfz17_0
            try clear hfz17_1
            try clear hfz17_2
            try clear hfz5_0
            try clear hfz5_1
            try clear hfz5_2
            try clear hfz7_0
            try clear hfz7_1
            try clear hfz7_2
            try clear p2
            obtain ⟨x9_2, x10_2, rfl, rfl, HA, HK2, BK130, HB⟩ := hrel
            cases gk with
            | zero => exact absurd HA.out (by simp [spec_AddrText.l3])
            | succ k2 =>
              have H := HA.out
              clear HA
              simp only [spec_AddrText.l3] at H
              by_cases c20 : x10_2 < 8
              · rw [if_pos c20] at H
                have c20b0 : decide (x10_2 < 8) = true := decide_eq_true c20
                clear c20
                by_cases c21 : x10_2 = x5_1
                · rw [if_pos c21] at H
                  have c21b0 : (x10_2 == x5_1) = true := beq_iff_eq.mpr c21
                  have c21b1 : (x10_2 != x5_1) = false := bne_eq_false_iff_eq.mpr c21
                  clear c21
                  by_cases c22 : x9_2.size + 2 ≤ 9223372036854775807
                  · rw [if_pos c22] at H
                    have c22b0 := eq_true c22
                    have c22b1 : decide (x9_2.size + 2 ≤ 9223372036854775807) = true := decide_eq_true c22
                    try have c22b2 : (9223372036854775807 < x9_2.size + 2) = False := eq_false (Nat.not_lt.2 c22)
                    have H' := Aside0.mk H
                    clear H
                    go_wp2
                    go_roundg k2
                    case measure => have := HK1.out; have := HK2.out; omega
                    case rel => exact ⟨(x9_2 ++ (⟨#[58, 58]⟩ : ByteArray)), (wrap64 ((wrap64 ((wrap64 (x10_2 + x6_1)) - 1)) + 1)), (by first | rfl | (simp; done) | (simp [*]; done)), (by first | rfl | (simp; done) | (simp [*]; done)), H', ⟨by have := HK1.out; have := HK2.out; omega⟩, ⟨by (with_reducible repeat (first | refine blk_drewN ?_ _ | refine blk_drew ?_ | refine blk_alloc ?_ _)); exact BK130.out⟩, ⟨by repeat (first | (with_reducible first | exact HB.out | apply below_alloc | apply pw_below_drewN | apply below_drew1 | refine below_set ?_ GE130.out) | exact HB.out)⟩⟩
                  · rw [if_neg c22] at H
                    exact absurd H (by simp)
                · rw [if_neg c21] at H
                  have c21b0 : (x10_2 == x5_1) = false := beq_eq_false_iff_ne.mpr c21
                  have c21b1 : (x10_2 != x5_1) = true := bne_iff_ne.mpr c21
                  have HC23 := Aside0.mk H
                  clear H
                  go_upto_region 29 with (fail)
                  go_cut [80] (fun v80 wc => ∃ (kq : Nat) (x80_22 : Bool), v80 = .bool x80_22 ∧ Aside0 (spec_AddrText.j4 kq x5_1 x6_1 x9_2 x10_2 x80_22 true t132 t133 = some r) ∧ Aside0 (kq ≤ k2) ∧ Aside0 (wc.heap[gb130]? = some (.cells #[.bool true, .int .i64 t132, .int .i64 t133] 29 (0, 0))) ∧ Aside0 (Below w.heap.size w wc))
                  case first =>
                    have H := HC23.out
                    clear HC23
                    by_cases c24 : x10_2 > 0
                    · rw [if_pos c24] at H
                      have c24b0 : decide (0 < x10_2) = true := decide_eq_true c24
                      clear c24
                      (first | rw [c24b0] | (simp only [i64_w, i32_w]; rw [c24b0]) | skip)
                      have H' := Aside0.mk H
                      clear H
                      go_wp2
                      go_meet
                      case rel => exact ⟨_, ((x10_2 != (wrap64 (x5_1 + x6_1)))), (by first | rfl | (simp; done) | (simp [*]; done)), H', ⟨by have := HK1.out; have := HK2.out; first | omega | exact Nat.le_refl _⟩, ⟨by (with_reducible repeat (first | refine blk_drewN ?_ _ | refine blk_drew ?_ | refine blk_alloc ?_ _)); exact BK130.out⟩, ⟨by repeat (first | (with_reducible first | exact HB.out | apply below_alloc | apply pw_below_drewN | apply below_drew1 | refine below_set ?_ GE130.out) | exact HB.out)⟩⟩
                    · rw [if_neg c24] at H
                      have c24b0 : decide (0 < x10_2) = false := decide_eq_false c24
                      clear c24
                      (first | rw [c24b0] | (simp only [i64_w, i32_w]; rw [c24b0]) | skip)
                      have H' := Aside0.mk H
                      clear H
                      go_wp2
                      go_meet
                      case rel => exact ⟨_, (false), (by first | rfl | (simp; done) | (simp [*]; done)), H', ⟨by have := HK1.out; have := HK2.out; first | omega | exact Nat.le_refl _⟩, ⟨by (with_reducible repeat (first | refine blk_drewN ?_ _ | refine blk_drew ?_ | refine blk_alloc ?_ _)); exact BK130.out⟩, ⟨by repeat (first | (with_reducible first | exact HB.out | apply below_alloc | apply pw_below_drewN | apply below_drew1 | refine below_set ?_ GE130.out) | exact HB.out)⟩⟩
                  case rest =>
                    clear HC23
                    try clear c1
                    try clear c2
                    try clear p2
                    try clear c3
                    try clear p6
                    try clear c8
                    try clear c8b0
                    try clear c9
                    try clear c9b0
                    try clear c11
                    try clear c11b0
                    try clear c11b1
                    try clear c14
                    try clear c14b0
                    try clear c19
                    try clear c19b0
                    try clear c20
                    try clear c20b0
                    try clear c21
                    try clear c21b0
                    try clear c21b1
                    try clear c22
                    try clear c22b0
                    try clear c22b1
                    try clear c22b2
                    try clear c24
                    try clear c24b0
                    try clear hcz12_0
                    try clear hcz12_1
                    try clear hcz12_2
                    try clear hcz15_0
                    try clear hcz15_1
                    try clear hcz15_2
                    try clear hcz17_0
                    try clear hcz17_1
                    try clear hcz17_2
                    try clear hcz5_0
                    try clear hcz5_1
                    try clear hcz5_2
                    try clear hcz7_0
                    try clear hcz7_1
                    try clear hcz7_2
                    try clear hfz12_0
                    try clear hfz12_1
                    try clear hfz12_2
                    try clear hfz15_0
                    try clear hfz15_1
                    try clear hfz15_2
                    try clear hfz17_0
                    try clear hfz17_1
                    try clear hfz17_2
                    try clear hfz5_0
                    try clear hfz5_1
                    try clear hfz5_2
                    try clear hfz7_0
                    try clear hfz7_1
                    try clear hfz7_2
                    try clear p2
                    try clear p6
                    obtain ⟨kq, x80_22, rfl, HA, HJ22, BK130, HB⟩ := hcut
                    cases kq with
                    | zero => exact absurd HA.out (by simp [spec_AddrText.j4])
                    | succ kj22 =>
                      have H := HA.out
                      clear HA
                      simp only [spec_AddrText.j4] at H
                      by_cases c25 : x80_22 = true
                      · subst c25
                        have H1 : (if x9_2.size + 1 ≤ 9223372036854775807 then ((spec_l1Group.f true t132 t133 x10_2).bind fun t136 => ((spec_l1Figures.f kj22 t136 16).bind fun t137 => (if (x9_2 ++ (⟨#[58]⟩ : ByteArray)).size + t137.size ≤ 9223372036854775807 then (spec_AddrText.l3 kj22 x5_1 x6_1 ((x9_2 ++ (⟨#[58]⟩ : ByteArray)) ++ t137) (wrap64 (x10_2 + 1)) true t132 t133) else (none)))) else (none)) = some r := by rw [if_pos rfl] at H; exact H
                        clear H
                        have H := H1
                        clear H1
                        by_cases c26 : x9_2.size + 1 ≤ 9223372036854775807
                        · rw [if_pos c26] at H
                          have c26b0 := eq_true c26
                          have c26b1 : decide (x9_2.size + 1 ≤ 9223372036854775807) = true := decide_eq_true c26
                          try have c26b2 : (9223372036854775807 < x9_2.size + 1) = False := eq_false (Nat.not_lt.2 c26)
                          replace H := Option.bind_eq_some_iff.mp H
                          obtain ⟨t136, A270, H⟩ := H
                          replace H : ((spec_l1Figures.f kj22 t136 16).bind fun t137 => (if (x9_2 ++ (⟨#[58]⟩ : ByteArray)).size + t137.size ≤ 9223372036854775807 then (spec_AddrText.l3 kj22 x5_1 x6_1 ((x9_2 ++ (⟨#[58]⟩ : ByteArray)) ++ t137) (wrap64 (x10_2 + 1)) true t132 t133) else (none))) = some r := H
                          have A27 := Aside0.mk A270
                          clear A270
                          replace H := Option.bind_eq_some_iff.mp H
                          obtain ⟨t137, A280, H⟩ := H
                          replace H : (if (x9_2 ++ (⟨#[58]⟩ : ByteArray)).size + t137.size ≤ 9223372036854775807 then (spec_AddrText.l3 kj22 x5_1 x6_1 ((x9_2 ++ (⟨#[58]⟩ : ByteArray)) ++ t137) (wrap64 (x10_2 + 1)) true t132 t133) else (none)) = some r := H
                          have A28 := Aside0.mk A280
                          clear A280
                          by_cases c29 : (x9_2 ++ (⟨#[58]⟩ : ByteArray)).size + t137.size ≤ 9223372036854775807
                          · rw [if_pos c29] at H
                            have c29b0 := eq_true c29
                            have c29b1 : decide ((x9_2 ++ (⟨#[58]⟩ : ByteArray)).size + t137.size ≤ 9223372036854775807) = true := decide_eq_true c29
                            try have c29b2 : (9223372036854775807 < (x9_2 ++ (⟨#[58]⟩ : ByteArray)).size + t137.size) = False := eq_false (Nat.not_lt.2 c29)
                            try have c29b4 : (9223372036854775807 < x9_2.size + 1 + t137.size) = False := eq_false (by have h_ := c29; rw [ByteArray.size_append] at h_; have e_ : (⟨#[58]⟩ : ByteArray).size = 1 := rfl; rw [e_] at h_; omega)
                            have H' := Aside0.mk H
                            clear H
                            have hcz30_0 : wc.cell? ⟨gb130, 0, none⟩ = some (.bool true) := (blk_cell BK130.out 0).trans rfl
                            have hcz30_1 : wc.cell? ⟨gb130, 1, none⟩ = some (.int .i64 t132) := (blk_cell BK130.out 1).trans rfl
                            have hcz30_2 : wc.cell? ⟨gb130, 2, none⟩ = some (.int .i64 t133) := (blk_cell BK130.out 2).trans rfl
                            have hfz30_0 := blk_frozen BK130.out 0
                            have hfz30_1 := blk_frozen BK130.out 1
                            have hfz30_2 := blk_frozen BK130.out 2
                            go_wp2_with (first | ((with_reducible refine gate_callee (f := 142) rfl ?_); refine goesL_ (some 86) rfl rfl Try.func142 (by kernel_rfl) rfl #[.agg #[.bool true, .int .i64 t132, .int .i64 t133], .int .i64 x10_2] rfl (by (try simp only [List.map_toArray, List.map_cons, List.map_nil]); first | done | rfl | (simp only [List.length_drop, List.length_take]; rfl)) ?_; (with_reducible refine (spec_l1Group.calls true t132 t133 x10_2 t136 _ A27.out).mono ?_); rintro e w31 ⟨rfl, hb⟩; refine ⟨_, rfl, ?_⟩; have n0_ := Aside0.mk (blk_below (g := gb130) (o := .cells #[.bool true, .int .i64 t132, .int .i64 t133] 29 (0, 0)) (by (with_reducible repeat (first | refine blk_drewN ?_ _ | refine blk_drew ?_ | refine blk_alloc ?_ _)); exact BK130.out) hb); have n1_ := Aside0.mk (below_step (by repeat (first | (with_reducible first | exact HB.out | apply below_alloc | apply pw_below_drewN | apply below_drew1 | refine below_set ?_ GE130.out) | exact HB.out)) hb); clear BK130; clear HB; have BK130 := n0_; have HB := n1_; clear n0_ n1_; (try clear hb); (try clear hb2); (try clear hk); (try clear hi)) | ((with_reducible refine gate_callee (f := 81) rfl ?_); refine goesL_ (some 87) rfl rfl Try.func81 (by kernel_rfl) rfl #[.int .u64 t136, .int .u64 16] rfl (by (try simp only [List.map_toArray, List.map_cons, List.map_nil]); first | done | rfl | (simp only [List.length_drop, List.length_take]; rfl)) ?_; (with_reducible refine (spec_l1Figures.calls kj22 t136 16 t137 _ A28.out).mono ?_); rintro e w32 ⟨rfl, hb⟩; refine ⟨_, rfl, ?_⟩; have n0_ := Aside0.mk (blk_below (g := gb130) (o := .cells #[.bool true, .int .i64 t132, .int .i64 t133] 29 (0, 0)) (by (with_reducible repeat (first | refine blk_drewN ?_ _ | refine blk_drew ?_ | refine blk_alloc ?_ _)); exact BK130.out) hb); have n1_ := Aside0.mk (below_step (by repeat (first | (with_reducible first | exact HB.out | apply below_alloc | apply pw_below_drewN | apply below_drew1 | refine below_set ?_ GE130.out) | exact HB.out)) hb); clear BK130; clear HB; have BK130 := n0_; have HB := n1_; clear n0_ n1_; (try clear hb); (try clear hb2); (try clear hk); (try clear hi)))
                            go_roundg kj22
                            case measure => have := HK1.out; have := HK2.out; have := HJ22.out; omega
                            case rel => exact ⟨((x9_2 ++ (⟨#[58]⟩ : ByteArray)) ++ t137), (wrap64 (x10_2 + 1)), (by first | rfl | (simp; done) | (simp [*]; done)), (by first | rfl | (simp; done) | (simp [*]; done)), H', ⟨by have := HK1.out; have := HK2.out; have := HJ22.out; omega⟩, ⟨by (with_reducible repeat (first | refine blk_drewN ?_ _ | refine blk_drew ?_ | refine blk_alloc ?_ _)); exact BK130.out⟩, ⟨by repeat (first | (with_reducible first | exact HB.out | apply below_alloc | apply pw_below_drewN | apply below_drew1 | refine below_set ?_ GE130.out) | exact HB.out)⟩⟩
                          · rw [if_neg c29] at H
                            exact absurd H (by simp)
                        · rw [if_neg c26] at H
                          exact absurd H (by simp)
                      · replace c25 := Bool.eq_false_iff.mpr c25
                        subst c25
                        have H1 : ((spec_l1Group.f true t132 t133 x10_2).bind fun t138 => ((spec_l1Figures.f kj22 t138 16).bind fun t139 => (if x9_2.size + t139.size ≤ 9223372036854775807 then (spec_AddrText.l3 kj22 x5_1 x6_1 (x9_2 ++ t139) (wrap64 (x10_2 + 1)) true t132 t133) else (none)))) = some r := by rw [if_neg (show ¬ (false = true) by decide)] at H; exact H
                        clear H
                        have H := H1
                        clear H1
                        replace H := Option.bind_eq_some_iff.mp H
                        obtain ⟨t138, A330, H⟩ := H
                        replace H : ((spec_l1Figures.f kj22 t138 16).bind fun t139 => (if x9_2.size + t139.size ≤ 9223372036854775807 then (spec_AddrText.l3 kj22 x5_1 x6_1 (x9_2 ++ t139) (wrap64 (x10_2 + 1)) true t132 t133) else (none))) = some r := H
                        have A33 := Aside0.mk A330
                        clear A330
                        replace H := Option.bind_eq_some_iff.mp H
                        obtain ⟨t139, A340, H⟩ := H
                        replace H : (if x9_2.size + t139.size ≤ 9223372036854775807 then (spec_AddrText.l3 kj22 x5_1 x6_1 (x9_2 ++ t139) (wrap64 (x10_2 + 1)) true t132 t133) else (none)) = some r := H
                        have A34 := Aside0.mk A340
                        clear A340
                        by_cases c35 : x9_2.size + t139.size ≤ 9223372036854775807
                        · rw [if_pos c35] at H
                          have c35b0 := eq_true c35
                          have c35b1 : decide (x9_2.size + t139.size ≤ 9223372036854775807) = true := decide_eq_true c35
                          try have c35b2 : (9223372036854775807 < x9_2.size + t139.size) = False := eq_false (Nat.not_lt.2 c35)
                          have H' := Aside0.mk H
                          clear H
                          have hcz36_0 : wc.cell? ⟨gb130, 0, none⟩ = some (.bool true) := (blk_cell BK130.out 0).trans rfl
                          have hcz36_1 : wc.cell? ⟨gb130, 1, none⟩ = some (.int .i64 t132) := (blk_cell BK130.out 1).trans rfl
                          have hcz36_2 : wc.cell? ⟨gb130, 2, none⟩ = some (.int .i64 t133) := (blk_cell BK130.out 2).trans rfl
                          have hfz36_0 := blk_frozen BK130.out 0
                          have hfz36_1 := blk_frozen BK130.out 1
                          have hfz36_2 := blk_frozen BK130.out 2
                          go_wp2_with (first | ((with_reducible refine gate_callee (f := 142) rfl ?_); refine goesL_ (some 86) rfl rfl Try.func142 (by kernel_rfl) rfl #[.agg #[.bool true, .int .i64 t132, .int .i64 t133], .int .i64 x10_2] rfl (by (try simp only [List.map_toArray, List.map_cons, List.map_nil]); first | done | rfl | (simp only [List.length_drop, List.length_take]; rfl)) ?_; (with_reducible refine (spec_l1Group.calls true t132 t133 x10_2 t138 _ A33.out).mono ?_); rintro e w37 ⟨rfl, hb⟩; refine ⟨_, rfl, ?_⟩; have n0_ := Aside0.mk (blk_below (g := gb130) (o := .cells #[.bool true, .int .i64 t132, .int .i64 t133] 29 (0, 0)) (by (with_reducible repeat (first | refine blk_drewN ?_ _ | refine blk_drew ?_ | refine blk_alloc ?_ _)); exact BK130.out) hb); have n1_ := Aside0.mk (below_step (by repeat (first | (with_reducible first | exact HB.out | apply below_alloc | apply pw_below_drewN | apply below_drew1 | refine below_set ?_ GE130.out) | exact HB.out)) hb); clear BK130; clear HB; have BK130 := n0_; have HB := n1_; clear n0_ n1_; (try clear hb); (try clear hb2); (try clear hk); (try clear hi)) | ((with_reducible refine gate_callee (f := 81) rfl ?_); refine goesL_ (some 87) rfl rfl Try.func81 (by kernel_rfl) rfl #[.int .u64 t138, .int .u64 16] rfl (by (try simp only [List.map_toArray, List.map_cons, List.map_nil]); first | done | rfl | (simp only [List.length_drop, List.length_take]; rfl)) ?_; (with_reducible refine (spec_l1Figures.calls kj22 t138 16 t139 _ A34.out).mono ?_); rintro e w38 ⟨rfl, hb⟩; refine ⟨_, rfl, ?_⟩; have n0_ := Aside0.mk (blk_below (g := gb130) (o := .cells #[.bool true, .int .i64 t132, .int .i64 t133] 29 (0, 0)) (by (with_reducible repeat (first | refine blk_drewN ?_ _ | refine blk_drew ?_ | refine blk_alloc ?_ _)); exact BK130.out) hb); have n1_ := Aside0.mk (below_step (by repeat (first | (with_reducible first | exact HB.out | apply below_alloc | apply pw_below_drewN | apply below_drew1 | refine below_set ?_ GE130.out) | exact HB.out)) hb); clear BK130; clear HB; have BK130 := n0_; have HB := n1_; clear n0_ n1_; (try clear hb); (try clear hb2); (try clear hk); (try clear hi)))
                          go_roundg kj22
                          case measure => have := HK1.out; have := HK2.out; have := HJ22.out; omega
                          case rel => exact ⟨(x9_2 ++ t139), (wrap64 (x10_2 + 1)), (by first | rfl | (simp; done) | (simp [*]; done)), (by first | rfl | (simp; done) | (simp [*]; done)), H', ⟨by have := HK1.out; have := HK2.out; have := HJ22.out; omega⟩, ⟨by (with_reducible repeat (first | refine blk_drewN ?_ _ | refine blk_drew ?_ | refine blk_alloc ?_ _)); exact BK130.out⟩, ⟨by repeat (first | (with_reducible first | exact HB.out | apply below_alloc | apply pw_below_drewN | apply below_drew1 | refine below_set ?_ GE130.out) | exact HB.out)⟩⟩
                        · rw [if_neg c35] at H
                          exact absurd H (by simp)
              · rw [if_neg c20] at H
                have c20b0 : decide (x10_2 < 8) = false := decide_eq_false c20
                clear c20
                obtain rfl := Option.some.inj H
                go_wp2
                go_ret
                exact ⟨by first | rfl | (simp [errW_none, errW_some] <;> rfl) | (simp [*, errW_none, errW_some] <;> rfl), by repeat (first | (with_reducible first | exact HB.out | apply below_alloc | apply pw_below_drewN | apply below_drew1 | refine below_set ?_ GE130.out) | exact HB.out)⟩
  · replace c3 := Bool.eq_false_iff.mpr c3
    subst c3
    have H1 : (spec_AddrText.l0 k (⟨#[]⟩ : ByteArray) 3 false t132 t133) = some r := by rw [if_neg (show ¬ (false = true) by decide)] at H; exact H
    clear H
    have H := H1
    clear H1
    have H' := Aside0.mk H
    clear H
    go_enter Try.func80, Try.ntmps80
    go_wp2_with (first | ((with_reducible refine gate_dst (N := 1) rfl ?_); refine box_event ?hg (N := 1) ?hd (cs := #[.bool a0_0, .int .i64 a0_1, .int .i64 a0_2]) (t := 29) ?hr ?_; (case hd => rfl); (case hg => rfl); (case hr => first | (go_simp; done) | (go_simp; rfl)); intro gb130 hg w39 hbox hb; have n0_ := Aside0.mk (below_step (by repeat (first | (with_reducible first | exact HB.out | apply below_alloc | apply pw_below_drewN | apply below_drew1) | exact HB.out)) hb); have n1_ := Aside0.mk (hbox); have n2_ := Aside0.mk ((by rw [hg]; exact (below_size (by repeat (first | (with_reducible first | exact HB.out | apply below_alloc | apply pw_below_drewN | apply below_drew1) | exact HB.out))) : w.heap.size ≤ gb130)); have n3_ := Aside0.mk ((by rw [hg]; exact (below_size (by repeat (first | (with_reducible first | exact HB.out | apply below_alloc | apply pw_below_drewN | apply below_drew1) | exact HB.out))) : w.heap.size ≤ gb130)); clear HB; have HB := n0_; have BK130 := n1_; have GW130 := n2_; have GE130 := n3_; clear n0_ n1_ n2_ n3_; clear hb hbox hg; have hcz40_0 : w39.cell? ⟨gb130, 0, none⟩ = some (.bool a0_0) := (blk_cell BK130.out 0).trans rfl; have hcz40_1 : w39.cell? ⟨gb130, 1, none⟩ = some (.int .i64 a0_1) := (blk_cell BK130.out 1).trans rfl; have hcz40_2 : w39.cell? ⟨gb130, 2, none⟩ = some (.int .i64 a0_2) := (blk_cell BK130.out 2).trans rfl; have hfz40_0 := blk_frozen BK130.out 0; have hfz40_1 := blk_frozen BK130.out 1; have hfz40_2 := blk_frozen BK130.out 2) | ((with_reducible refine gate_callee (f := 141) rfl ?_); refine goesL_ (some 12) rfl rfl Try.func141 (by kernel_rfl) rfl #[.agg #[.bool a0_0, .int .i64 a0_1, .int .i64 a0_2]] rfl (by (try simp only [List.map_toArray, List.map_cons, List.map_nil]); first | done | rfl | (simp only [List.length_drop, List.length_take]; rfl)) ?_; (with_reducible refine (spec_l1Addr.calls a0_0 a0_1 a0_2 false t132 t133 _ A2.out).mono ?_); rintro e w41 ⟨rfl, hb⟩; refine ⟨_, rfl, ?_⟩; have n0_ := Aside0.mk (blk_below (g := gb130) (o := .cells #[.bool a0_0, .int .i64 a0_1, .int .i64 a0_2] 29 (0, 0)) (by (with_reducible repeat (first | refine blk_drewN ?_ _ | refine blk_drew ?_ | refine blk_alloc ?_ _)); exact BK130.out) hb); have n1_ := Aside0.mk (below_step (by repeat (first | (with_reducible first | exact HB.out | apply below_alloc | apply pw_below_drewN | apply below_drew1 | refine below_set ?_ GE130.out) | exact HB.out)) hb); clear BK130; clear HB; have BK130 := n0_; have HB := n1_; clear n0_ n1_; (try clear hb); (try clear hb2); (try clear hk); (try clear hi); have hcz42_0 : w41.cell? ⟨gb130, 0, none⟩ = some (.bool a0_0) := (blk_cell BK130.out 0).trans rfl; have hcz42_1 : w41.cell? ⟨gb130, 1, none⟩ = some (.int .i64 a0_1) := (blk_cell BK130.out 1).trans rfl; have hcz42_2 : w41.cell? ⟨gb130, 2, none⟩ = some (.int .i64 a0_2) := (blk_cell BK130.out 2).trans rfl; have hfz42_0 := blk_frozen BK130.out 0; have hfz42_1 := blk_frozen BK130.out 1; have hfz42_2 := blk_frozen BK130.out 2))
    go_loopg [3, 4] k (fun kq v3 v4 w' => ∃ (x3_1 : ByteArray) (x4_1 : Int), v3 = .string x3_1 ∧ v4 = .int .i64 x4_1 ∧ Aside0 (spec_AddrText.l0 kq x3_1 x4_1 false t132 t133 = some r) ∧ Aside0 (kq ≤ k) ∧ Aside0 (w'.heap[gb130]? = some (.cells #[.bool false, .int .i64 t132, .int .i64 t133] 29 (0, 0))) ∧ Aside0 (Below w.heap.size w w'))
    case atStart => exact ⟨((⟨#[]⟩ : ByteArray)), (3), (by first | rfl | (simp; done) | (simp [*]; done)), (by first | rfl | (simp; done) | (simp [*]; done)), H', ⟨Nat.le_refl _⟩, ⟨by (with_reducible repeat (first | refine blk_drewN ?_ _ | refine blk_drew ?_ | refine blk_alloc ?_ _)); refine blk_put (cs := #[.bool false, .int .i64 t132, .int .i64 a0_2]) ?_ 2 _ rfl; (with_reducible repeat (first | refine blk_drewN ?_ _ | refine blk_drew ?_ | refine blk_alloc ?_ _)); refine blk_put (cs := #[.bool false, .int .i64 a0_1, .int .i64 a0_2]) ?_ 1 _ rfl; (with_reducible repeat (first | refine blk_drewN ?_ _ | refine blk_drew ?_ | refine blk_alloc ?_ _)); refine blk_put (cs := #[.bool a0_0, .int .i64 a0_1, .int .i64 a0_2]) ?_ 0 _ rfl; (with_reducible repeat (first | refine blk_drewN ?_ _ | refine blk_drew ?_ | refine blk_alloc ?_ _)); exact BK130.out⟩, ⟨by repeat (first | (with_reducible first | exact HB.out | apply below_alloc | apply pw_below_drewN | apply below_drew1 | refine below_set ?_ GE130.out) | exact HB.out)⟩⟩
    case round =>
      clear H'
      try clear c1
      try clear c2
      try clear p2
      try clear c3
      try clear p6
      try clear c8
      try clear c8b0
      try clear c9
      try clear c9b0
      try clear c11
      try clear c11b0
      try clear c11b1
      try clear c14
      try clear c14b0
      try clear c19
      try clear c19b0
      try clear c20
      try clear c20b0
      try clear c21
      try clear c21b0
      try clear c21b1
      try clear c22
      try clear c22b0
      try clear c22b1
      try clear c22b2
      try clear c24
      try clear c24b0
      try clear c25
      try clear c26
      try clear c26b0
      try clear c26b1
      try clear c26b2
      try clear c29
      try clear c29b0
      try clear c29b1
      try clear c29b2
      try clear c35
      try clear c35b0
      try clear c35b1
      try clear c35b2
      try clear hcz12_0
      try clear hcz12_1
      try clear hcz12_2
      try clear hcz15_0
      try clear hcz15_1
      try clear hcz15_2
      try clear hcz17_0
      try clear hcz17_1
      try clear hcz17_2
      try clear hcz30_0
      try clear hcz30_1
      try clear hcz30_2
      try clear hcz36_0
      try clear hcz36_1
      try clear hcz36_2
      try clear hcz40_0
      try clear hcz40_1
      try clear hcz40_2
      try clear hcz42_0
      try clear hcz42_1
      try clear hcz42_2
      try clear hcz5_0
      try clear hcz5_1
      try clear hcz5_2
      try clear hcz7_0
      try clear hcz7_1
      try clear hcz7_2
      try clear hfz12_0
      try clear hfz12_1
      try clear hfz12_2
      try clear hfz15_0
      try clear hfz15_1
      try clear hfz15_2
      try clear hfz17_0
      try clear hfz17_1
      try clear hfz17_2
      try clear hfz30_0
      try clear hfz30_1
      try clear hfz30_2
      try clear hfz36_0
      try clear hfz36_1
      try clear hfz36_2
      try clear hfz40_0
      try clear hfz40_1
      try clear hfz40_2
      try clear hfz42_0
      try clear hfz42_1
      try clear hfz42_2
      try clear hfz5_0
      try clear hfz5_1
      try clear hfz5_2
      try clear hfz7_0
      try clear hfz7_1
      try clear hfz7_2
      try clear p2
      try clear p6
      obtain ⟨x3_1, x4_1, rfl, rfl, HA, HK1, BK130, HB⟩ := hrel
      cases gk with
      | zero => exact absurd HA.out (by simp [spec_AddrText.l0])
      | succ k1 =>
        have H := HA.out
        clear HA
        simp only [spec_AddrText.l0] at H
        by_cases c43 : x4_1 ≥ 0
        · rw [if_pos c43] at H
          have c43b0 : decide (0 ≤ x4_1) = true := decide_eq_true c43
          clear c43
          obtain ⟨ji44, hji44⟩ : ∃ j_ : Int, (IntKind.u64.wrap (wrap64 (8 * x4_1))) = j_ := ⟨_, rfl⟩
          replace H : (if 0 ≤ (ji44) then ((spec_l1Figures.f k1 (Go.bits .and .u64 (shr .u64 (IntKind.u64.wrap (t133)) (ji44)) 255) 10).bind fun t134 => (if x3_1.size + t134.size ≤ 9223372036854775807 then (if x4_1 > 0 then (if (x3_1 ++ t134).size + 1 ≤ 9223372036854775807 then (spec_AddrText.l0 k1 ((x3_1 ++ t134) ++ (⟨#[46]⟩ : ByteArray)) (wrap64 (x4_1 - 1)) false t132 t133) else (none)) else (spec_AddrText.l0 k1 (x3_1 ++ t134) (wrap64 (x4_1 - 1)) false t132 t133)) else (none))) else (none)) = some r := by first | (rw [hji44] at H; exact H) | (simp only [hji44] at H ⊢; exact H)
          by_cases c45 : 0 ≤ (ji44)
          · rw [if_pos c45] at H
            have c45b0 := eq_true c45
            have c45b1 : decide (0 ≤ (ji44)) = true := decide_eq_true c45
            clear c45
            obtain ⟨ji46, hji46⟩ : ∃ j_ : Int, (shr .u64 (IntKind.u64.wrap (t133)) (ji44)) = j_ := ⟨_, rfl⟩
            replace H : ((spec_l1Figures.f k1 (Go.bits .and .u64 (ji46) 255) 10).bind fun t134 => (if x3_1.size + t134.size ≤ 9223372036854775807 then (if x4_1 > 0 then (if (x3_1 ++ t134).size + 1 ≤ 9223372036854775807 then (spec_AddrText.l0 k1 ((x3_1 ++ t134) ++ (⟨#[46]⟩ : ByteArray)) (wrap64 (x4_1 - 1)) false t132 t133) else (none)) else (spec_AddrText.l0 k1 (x3_1 ++ t134) (wrap64 (x4_1 - 1)) false t132 t133)) else (none))) = some r := by first | (rw [hji46] at H; exact H) | (simp only [hji46] at H ⊢; exact H)
            have hji46_ : ((IntKind.u64.wrap (t133)) / 2 ^ min (ji44).toNat 64) = ji46 := hji46
            have hji46z : (ji44) ≤ 64 → ((IntKind.u64.wrap (t133)) / 2 ^ (ji44).toNat) = ji46 := shr_small hji46
            replace H := Option.bind_eq_some_iff.mp H
            obtain ⟨t134, A470, H⟩ := H
            replace H : (if x3_1.size + t134.size ≤ 9223372036854775807 then (if x4_1 > 0 then (if (x3_1 ++ t134).size + 1 ≤ 9223372036854775807 then (spec_AddrText.l0 k1 ((x3_1 ++ t134) ++ (⟨#[46]⟩ : ByteArray)) (wrap64 (x4_1 - 1)) false t132 t133) else (none)) else (spec_AddrText.l0 k1 (x3_1 ++ t134) (wrap64 (x4_1 - 1)) false t132 t133)) else (none)) = some r := H
            have A47 := Aside0.mk A470
            clear A470
            by_cases c48 : x3_1.size + t134.size ≤ 9223372036854775807
            · rw [if_pos c48] at H
              have c48b0 := eq_true c48
              have c48b1 : decide (x3_1.size + t134.size ≤ 9223372036854775807) = true := decide_eq_true c48
              try have c48b2 : (9223372036854775807 < x3_1.size + t134.size) = False := eq_false (Nat.not_lt.2 c48)
              by_cases c49 : x4_1 > 0
              · rw [if_pos c49] at H
                have c49b0 : decide (0 < x4_1) = true := decide_eq_true c49
                clear c49
                by_cases c50 : (x3_1 ++ t134).size + 1 ≤ 9223372036854775807
                · rw [if_pos c50] at H
                  have c50b0 := eq_true c50
                  have c50b1 : decide ((x3_1 ++ t134).size + 1 ≤ 9223372036854775807) = true := decide_eq_true c50
                  try have c50b2 : (9223372036854775807 < (x3_1 ++ t134).size + 1) = False := eq_false (Nat.not_lt.2 c50)
                  try have c50b4 : (9223372036854775807 < x3_1.size + t134.size + 1) = False := eq_false (by have h_ := c50; rw [ByteArray.size_append] at h_; omega)
                  have H' := Aside0.mk H
                  clear H
                  have hcz51_0 : wr.cell? ⟨gb130, 0, none⟩ = some (.bool false) := (blk_cell BK130.out 0).trans rfl
                  have hcz51_1 : wr.cell? ⟨gb130, 1, none⟩ = some (.int .i64 t132) := (blk_cell BK130.out 1).trans rfl
                  have hcz51_2 : wr.cell? ⟨gb130, 2, none⟩ = some (.int .i64 t133) := (blk_cell BK130.out 2).trans rfl
                  have hfz51_0 := blk_frozen BK130.out 0
                  have hfz51_1 := blk_frozen BK130.out 1
                  have hfz51_2 := blk_frozen BK130.out 2
                  go_wp2_with (first | ((with_reducible refine gate_callee (f := 81) rfl ?_); refine goesL_ (some 29) rfl rfl Try.func81 (by kernel_rfl) rfl #[.int .u64 (Go.bits .and .u64 (ji46) 255), .int .u64 10] rfl (by (try simp only [List.map_toArray, List.map_cons, List.map_nil]); first | done | (simp only [hji46]; rfl) | rfl | (simp only [List.length_drop, List.length_take]; rfl)) ?_; (with_reducible refine (spec_l1Figures.calls k1 (Go.bits .and .u64 (ji46) 255) 10 t134 _ A47.out).mono ?_); rintro e w52 ⟨rfl, hb⟩; refine ⟨_, rfl, ?_⟩; have n0_ := Aside0.mk (blk_below (g := gb130) (o := .cells #[.bool false, .int .i64 t132, .int .i64 t133] 29 (0, 0)) (by (with_reducible repeat (first | refine blk_drewN ?_ _ | refine blk_drew ?_ | refine blk_alloc ?_ _)); exact BK130.out) hb); have n1_ := Aside0.mk (below_step (by repeat (first | (with_reducible first | exact HB.out | apply below_alloc | apply pw_below_drewN | apply below_drew1 | refine below_set ?_ GE130.out) | exact HB.out)) hb); clear BK130; clear HB; have BK130 := n0_; have HB := n1_; clear n0_ n1_; (try clear hb); (try clear hb2); (try clear hk); (try clear hi)))
                  go_roundg k1
                  case measure => have := HK1.out; omega
                  case rel => exact ⟨((x3_1 ++ t134) ++ (⟨#[46]⟩ : ByteArray)), (wrap64 (x4_1 - 1)), (by first | rfl | (simp; done) | (simp [*]; done)), (by first | rfl | (simp; done) | (simp [*]; done)), H', ⟨by have := HK1.out; omega⟩, ⟨by (with_reducible repeat (first | refine blk_drewN ?_ _ | refine blk_drew ?_ | refine blk_alloc ?_ _)); exact BK130.out⟩, ⟨by repeat (first | (with_reducible first | exact HB.out | apply below_alloc | apply pw_below_drewN | apply below_drew1 | refine below_set ?_ GE130.out) | exact HB.out)⟩⟩
                · rw [if_neg c50] at H
                  exact absurd H (by simp)
              · rw [if_neg c49] at H
                have c49b0 : decide (0 < x4_1) = false := decide_eq_false c49
                clear c49
                have H' := Aside0.mk H
                clear H
                have hcz53_0 : wr.cell? ⟨gb130, 0, none⟩ = some (.bool false) := (blk_cell BK130.out 0).trans rfl
                have hcz53_1 : wr.cell? ⟨gb130, 1, none⟩ = some (.int .i64 t132) := (blk_cell BK130.out 1).trans rfl
                have hcz53_2 : wr.cell? ⟨gb130, 2, none⟩ = some (.int .i64 t133) := (blk_cell BK130.out 2).trans rfl
                have hfz53_0 := blk_frozen BK130.out 0
                have hfz53_1 := blk_frozen BK130.out 1
                have hfz53_2 := blk_frozen BK130.out 2
                go_wp2_with (first | ((with_reducible refine gate_callee (f := 81) rfl ?_); refine goesL_ (some 29) rfl rfl Try.func81 (by kernel_rfl) rfl #[.int .u64 (Go.bits .and .u64 (ji46) 255), .int .u64 10] rfl (by (try simp only [List.map_toArray, List.map_cons, List.map_nil]); first | done | (simp only [hji46]; rfl) | rfl | (simp only [List.length_drop, List.length_take]; rfl)) ?_; (with_reducible refine (spec_l1Figures.calls k1 (Go.bits .and .u64 (ji46) 255) 10 t134 _ A47.out).mono ?_); rintro e w54 ⟨rfl, hb⟩; refine ⟨_, rfl, ?_⟩; have n0_ := Aside0.mk (blk_below (g := gb130) (o := .cells #[.bool false, .int .i64 t132, .int .i64 t133] 29 (0, 0)) (by (with_reducible repeat (first | refine blk_drewN ?_ _ | refine blk_drew ?_ | refine blk_alloc ?_ _)); exact BK130.out) hb); have n1_ := Aside0.mk (below_step (by repeat (first | (with_reducible first | exact HB.out | apply below_alloc | apply pw_below_drewN | apply below_drew1 | refine below_set ?_ GE130.out) | exact HB.out)) hb); clear BK130; clear HB; have BK130 := n0_; have HB := n1_; clear n0_ n1_; (try clear hb); (try clear hb2); (try clear hk); (try clear hi)))
                go_roundg k1
                case measure => have := HK1.out; omega
                case rel => exact ⟨(x3_1 ++ t134), (wrap64 (x4_1 - 1)), (by first | rfl | (simp; done) | (simp [*]; done)), (by first | rfl | (simp; done) | (simp [*]; done)), H', ⟨by have := HK1.out; omega⟩, ⟨by (with_reducible repeat (first | refine blk_drewN ?_ _ | refine blk_drew ?_ | refine blk_alloc ?_ _)); exact BK130.out⟩, ⟨by repeat (first | (with_reducible first | exact HB.out | apply below_alloc | apply pw_below_drewN | apply below_drew1 | refine below_set ?_ GE130.out) | exact HB.out)⟩⟩
            · rw [if_neg c48] at H
              exact absurd H (by simp)
          · rw [if_neg c45] at H
            exact absurd H (by simp)
        · rw [if_neg c43] at H
          have c43b0 : decide (0 ≤ x4_1) = false := decide_eq_false c43
          clear c43
          obtain rfl := Option.some.inj H
          go_wp2
          go_ret
          exact ⟨by first | rfl | (simp [errW_none, errW_some] <;> rfl) | (simp [*, errW_none, errW_some] <;> rfl), by repeat (first | (with_reducible first | exact HB.out | apply below_alloc | apply pw_below_drewN | apply below_drew1 | refine below_set ?_ GE130.out) | exact HB.out)⟩

end Go.Proofs.Ythakdhdoeejkmaa.QFnExactPrefixText
