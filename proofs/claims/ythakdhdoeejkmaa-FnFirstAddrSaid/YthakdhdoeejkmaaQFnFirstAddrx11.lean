-- Written by a program of this session (wip/myprint.py); Lean checks it.
import Derived.Test.YthakdhdoeejkmaaQFnFirstAddrx0
import Derived.Test.YthakdhdoeejkmaaQFnFirstAddrx7
import Derived.Test.YthakdhdoeejkmaaQFnFirstAddrx10
namespace Go.Proofs.Ythakdhdoeejkmaa.QFnFirstAddr
open Go.RowKit Go.Proofs.YthakdhdoeejkmaaW.PrintWords Go.Proofs.YthakdhdoeejkmaaW.PrintLast Go.Proofs.YthakdhdoeejkmaaW.PrintMore
attribute [local go_sem] max2_int min2_int max_two min_two max_three min_three max_four min_four   -- for this text's walks alone
set_option linter.unusedVariables false
set_option linter.unusedSimpArgs false

attribute [local go_sem] isSome_setCell
/-! ### impl_FirstAddr: function 30 -/
mutual
def impl_FirstAddr.j0 : Nat → List (S29) → Bool → Bool → Int → Int → Int → Option (Bool × Int × Int × Bool)
 | 0, _, _, _, _, _, _ => none
 | k + 1, x1, x19, x215000, x215001, x215002, x215003 => if x19 = true then (some (false, 0, 0, false)) else (impl_FirstAddr.l0 k x1 0 x215000 x215001 x215002 x215003)
def impl_FirstAddr.l0 : Nat → List (S29) → Int → Bool → Int → Int → Int → Option (Bool × Int × Int × Bool)
 | 0, _, _, _, _, _, _ => none
 | k + 1, x1, x6, x215000, x215001, x215002, x215003 => (impl_NthOf.f x215000 x215001 x215002 x215003 x6).bind fun bt217 => (if bt217.2.2.2 = true then (impl_FirstAddr.l1 k x1 x6 true x1 (x1.length : Int) 0 x215000 x215001 x215002 x215003 bt217.1 bt217.2.1 bt217.2.2.1) else (some (false, 0, 0, false)))
def impl_FirstAddr.l1 : Nat → List (S29) → Int → Bool → List (S29) → Int → Int → Bool → Int → Int → Int → Bool → Int → Int → Option (Bool × Int × Int × Bool)
 | 0, _, _, _, _, _, _, _, _, _, _, _, _, _ => none
 | k + 1, x1, x6, x9, x32, x33, x34, x215000, x215001, x215002, x215003, x222000, x222001, x222002 => if x34 < x33 then (if 0 ≤ x34 then (if x34 < (x32.length : Int) then (if x9 = true then ((impl_CmpAddr.f k ((rd_T29 x32 x34).f0) ((rd_T29 x32 x34).f1) ((rd_T29 x32 x34).f2) x222000 x222001 x222002).bind fun t224 => (impl_FirstAddr.l1 k x1 x6 (t224 != 0) x32 x33 (wrap64 (x34 + 1)) x215000 x215001 x215002 x215003 x222000 x222001 x222002)) else (impl_FirstAddr.l1 k x1 x6 false x32 x33 (wrap64 (x34 + 1)) x215000 x215001 x215002 x215003 x222000 x222001 x222002)) else (none)) else (none)) else (if x9 = true then (some (x222000, x222001, x222002, true)) else (impl_FirstAddr.l0 k x1 (wrap64 (x6 + 1)) x215000 x215001 x215002 x215003))
end
def impl_FirstAddr.f (k : Nat) (a0_0 : Bool) (a0_1 : Int) (a0_2 : Int) (a0_3 : Int) (l1 : List (S29)) : Option (Bool × Int × Int × Bool) := (impl_PrefixOk.f a0_0 a0_1 a0_2 a0_3).bind fun t216 => (if t216 = true then (impl_FirstAddr.j0 k l1 (decide ((l1.length : Int) > 300)) a0_0 a0_1 a0_2 a0_3) else (impl_FirstAddr.j0 k l1 true a0_0 a0_1 a0_2 a0_3))
theorem impl_FirstAddr.mono_l : ∀ k, (∀ y0 y1 y2 y3 y4 y5, LeO (impl_FirstAddr.j0 k y0 y1 y2 y3 y4 y5) (impl_FirstAddr.j0 (k + 1) y0 y1 y2 y3 y4 y5)) ∧ (∀ y0 y1 y2 y3 y4 y5, LeO (impl_FirstAddr.l0 k y0 y1 y2 y3 y4 y5) (impl_FirstAddr.l0 (k + 1) y0 y1 y2 y3 y4 y5)) ∧ (∀ y0 y1 y2 y3 y4 y5 y6 y7 y8 y9 y10 y11 y12, LeO (impl_FirstAddr.l1 k y0 y1 y2 y3 y4 y5 y6 y7 y8 y9 y10 y11 y12) (impl_FirstAddr.l1 (k + 1) y0 y1 y2 y3 y4 y5 y6 y7 y8 y9 y10 y11 y12))
 | 0 => ⟨fun _ _ _ _ _ _ r h => by simp [impl_FirstAddr.j0] at h, fun _ _ _ _ _ _ r h => by simp [impl_FirstAddr.l0] at h, fun _ _ _ _ _ _ _ _ _ _ _ _ _ r h => by simp [impl_FirstAddr.l1] at h⟩
 | k + 1 => by
  obtain ⟨ih0, ih1, ih2⟩ := impl_FirstAddr.mono_l k
  refine ⟨?_, ?_, ?_⟩
  ·intro y0 y1 y2 y3 y4 y5
   unfold impl_FirstAddr.j0
   repeat' first
   | (with_reducible exact ih0 _ _ _ _ _ _)
   | (with_reducible exact ih1 _ _ _ _ _ _)
   | (with_reducible exact ih2 _ _ _ _ _ _ _ _ _ _ _ _ _)
   | (with_reducible exact impl_CmpAddr.mono _ _ _ _ _ _ _)
   | (with_reducible exact LeO.refl _)
   | (with_reducible exact LeO.none _)
   | (with_reducible refine LeO.ite ?_ ?_)
   | (with_reducible refine LeO.bind ?_ (fun _ => ?_))
   | exact ih0 _ _ _ _ _ _
   | exact ih1 _ _ _ _ _ _
   | exact ih2 _ _ _ _ _ _ _ _ _ _ _ _ _
   | exact impl_CmpAddr.mono _ _ _ _ _ _ _
   | exact LeO.none _
   | refine LeO.ite ?_ ?_
   | refine LeO.bind ?_ (fun _ => ?_)
  ·intro y0 y1 y2 y3 y4 y5
   unfold impl_FirstAddr.l0
   repeat' first
   | (with_reducible exact ih0 _ _ _ _ _ _)
   | (with_reducible exact ih1 _ _ _ _ _ _)
   | (with_reducible exact ih2 _ _ _ _ _ _ _ _ _ _ _ _ _)
   | (with_reducible exact impl_CmpAddr.mono _ _ _ _ _ _ _)
   | (with_reducible exact LeO.refl _)
   | (with_reducible exact LeO.none _)
   | (with_reducible refine LeO.ite ?_ ?_)
   | (with_reducible refine LeO.bind ?_ (fun _ => ?_))
   | exact ih0 _ _ _ _ _ _
   | exact ih1 _ _ _ _ _ _
   | exact ih2 _ _ _ _ _ _ _ _ _ _ _ _ _
   | exact impl_CmpAddr.mono _ _ _ _ _ _ _
   | exact LeO.none _
   | refine LeO.ite ?_ ?_
   | refine LeO.bind ?_ (fun _ => ?_)
  ·intro y0 y1 y2 y3 y4 y5 y6 y7 y8 y9 y10 y11 y12
   unfold impl_FirstAddr.l1
   repeat' first
   | (with_reducible exact ih0 _ _ _ _ _ _)
   | (with_reducible exact ih1 _ _ _ _ _ _)
   | (with_reducible exact ih2 _ _ _ _ _ _ _ _ _ _ _ _ _)
   | (with_reducible exact impl_CmpAddr.mono _ _ _ _ _ _ _)
   | (with_reducible exact LeO.refl _)
   | (with_reducible exact LeO.none _)
   | (with_reducible refine LeO.ite ?_ ?_)
   | (with_reducible refine LeO.bind ?_ (fun _ => ?_))
   | exact ih0 _ _ _ _ _ _
   | exact ih1 _ _ _ _ _ _
   | exact ih2 _ _ _ _ _ _ _ _ _ _ _ _ _
   | exact impl_CmpAddr.mono _ _ _ _ _ _ _
   | exact LeO.none _
   | refine LeO.ite ?_ ?_
   | refine LeO.bind ?_ (fun _ => ?_)
theorem impl_FirstAddr.mono : ∀ a0 a1 a2 a3 a4 k, LeO (impl_FirstAddr.f k a0 a1 a2 a3 a4) (impl_FirstAddr.f (k + 1) a0 a1 a2 a3 a4) := by
 intro a0 a1 a2 a3 a4 k
 obtain ⟨ih0, ih1, ih2⟩ := impl_FirstAddr.mono_l k
 unfold impl_FirstAddr.f
 repeat' first
   | (with_reducible exact ih0 _ _ _ _ _ _)
   | (with_reducible exact ih1 _ _ _ _ _ _)
   | (with_reducible exact ih2 _ _ _ _ _ _ _ _ _ _ _ _ _)
   | (with_reducible exact impl_CmpAddr.mono _ _ _ _ _ _ _)
   | (with_reducible exact LeO.refl _)
   | (with_reducible exact LeO.none _)
   | (with_reducible refine LeO.ite ?_ ?_)
   | (with_reducible refine LeO.bind ?_ (fun _ => ?_))
   | exact ih0 _ _ _ _ _ _
   | exact ih1 _ _ _ _ _ _
   | exact ih2 _ _ _ _ _ _ _ _ _ _ _ _ _
   | exact impl_CmpAddr.mono _ _ _ _ _ _ _
   | exact LeO.none _
   | refine LeO.ite ?_ ?_
   | refine LeO.bind ?_ (fun _ => ?_)
set_option maxHeartbeats 8000000 in
set_option maxRecDepth 100000 in
theorem impl_FirstAddr.calls (k : Nat) (a0_0 : Bool) (a0_1 : Int) (a0_2 : Int) (a0_3 : Int) (A1 : Option Addr) (c1 : Nat) (l1 : List (S29)) (r1 : Bool) (r2 : Int) (r3 : Int) (r4 : Bool) (w : World) (hr1 : Kd.C k29 w A1 l1.length l1) (hc1 : l1.length ≤ c1) (h : impl_FirstAddr.f k a0_0 a0_1 a0_2 a0_3 l1 = some (r1, r2, r3, r4)) :
  Calls Try.prog 30 #[.agg #[.bool a0_0, .int .i64 a0_1, .int .i64 a0_2, .int .i64 a0_3], .slice A1 l1.length c1] w fun e w' => e = .returned (.tuple #[.agg #[.bool r1, .int .i64 r2, .int .i64 r3], .bool r4]) ∧ Below w.heap.size w w' := by
 have hu31 := Try.underlying31
 have hu29 := Try.underlying29
 have HR1 := Aside0.mk hr1
 have HC1 := Aside0.mk hc1
 clear hr1 hc1
 have HB := Aside0.mk (Below.refl w.heap.size w)
 have H : ((impl_PrefixOk.f a0_0 a0_1 a0_2 a0_3).bind fun t216 => (if t216 = true then (impl_FirstAddr.j0 k l1 (decide ((l1.length : Int) > 300)) a0_0 a0_1 a0_2 a0_3) else (impl_FirstAddr.j0 k l1 true a0_0 a0_1 a0_2 a0_3))) = some (r1, r2, r3, r4) := h
 clear h
 have HC3 := Aside0.mk H
 clear H
 go_enter Try.func30, Try.ntmps30
 go_upto_region 1 with (first | ((with_reducible refine gate_dst (N := 2) rfl ?_); (try (refine gate_guard (by rfl) ?_; dsimp only)); refine box_event ?hg (N := 2) ?hd (cs := #[.bool a0_0, .int .i64 a0_1, .int .i64 a0_2, .int .i64 a0_3]) (t := 31) ?hr ?_; (case hd => rfl); (case hg => rfl); (case hr => first | (go_simp; done) | (go_simp; rfl)); intro gb214 hg w4 hbox hb; have n0_ := Aside0.mk (below_step (hb_ HB.out) hb); have n1_ := Aside0.mk (hbox); have n2_ := bg_ hg (below_size (hb_ HB.out)); have n3_ := bg_ hg (below_size (hb_ HB.out)); clear HB; have HB := n0_; have BK214 := n1_; have GW214 := n2_; have GE214 := n3_; clear n0_ n1_ n2_ n3_; clear hb hbox hg) | ((with_reducible refine gate_dst (N := 4) rfl ?_); (try (refine gate_guard (by rfl) ?_; dsimp only)); refine box_event ?hg (N := 4) ?hd (cs := #[.bool false, .int .i64 0, .int .i64 0]) (t := 29) ?hr ?_; (case hd => rfl); (case hg => rfl); (case hr => first | (go_simp; done) | (go_simp; rfl)); intro gb215 hg w5 hbox hb; have n0_ := Aside0.mk (blk_below (bk_ BK214.out) hb); have n1_ := Aside0.mk (below_step (hc_ HB.out GE214.out) hb); have n2_ := Aside0.mk (hbox); have n3_ := bg_ hg (below_size (hc_ HB.out GE214.out)); have n4_ := bg_ hg (below_size (hc_ HB.out GE214.out)); have n5_ := bn_ hg (blk_lt (bk_ BK214.out)); have n6_ := bm_ hg (blk_lt (bk_ BK214.out)); clear BK214; clear HB; have BK214 := n0_; have HB := n1_; have BK215 := n2_; have GW215 := n3_; have GE215 := n4_; have NB214_215 := n5_; have NB215_214 := n6_; clear n0_ n1_ n2_ n3_ n4_ n5_ n6_; clear hb hbox hg))
 (try simp only [Act.put, List.setIfInBounds_toArray, List.set_cons_zero, List.set_cons_succ])
 go_cut [19] (fun v19 wc => ∃ (kq : Nat) (x19_2 : Bool), v19 = .bool x19_2 ∧ Aside0 (impl_FirstAddr.j0 kq l1 x19_2 a0_0 a0_1 a0_2 a0_3 = some (r1, r2, r3, r4)) ∧ Aside0 (kq ≤ k) ∧ Aside0 (wc.heap[gb214]? = some (.cells #[.bool a0_0, .int .i64 a0_1, .int .i64 a0_2, .int .i64 a0_3] 31 (0, 0))) ∧ Aside0 (wc.heap[gb215]? = some (.cells #[.bool false, .int .i64 0, .int .i64 0] 29 (0, 0))) ∧ Aside0 (Below w.heap.size w wc))
 case first =>
  have H := HC3.out
  clear HC3
  replace H := Option.bind_eq_some_iff.mp H
  obtain ⟨t216, A60, H⟩ := H
  replace H : (if t216 = true then (impl_FirstAddr.j0 k l1 (decide ((l1.length : Int) > 300)) a0_0 a0_1 a0_2 a0_3) else (impl_FirstAddr.j0 k l1 true a0_0 a0_1 a0_2 a0_3)) = some (r1, r2, r3, r4) := H
  have A6 := Aside0.mk A60
  clear A60
  by_cases c7 : t216 = true
  ·subst c7
   have H1 : (impl_FirstAddr.j0 k l1 (decide ((l1.length : Int) > 300)) a0_0 a0_1 a0_2 a0_3) = some (r1, r2, r3, r4) := by rw [if_pos rfl] at H; exact H
   clear H
   have H := H1
   clear H1
   have H' := Aside0.mk H
   clear H
   have hnb8 := NB214_215.out
   have hnc8 := NB215_214.out
   obtain ⟨hcz9_0, hcz9_1, hcz9_2, hcz9_3, hfz9_0, hfz9_1, hfz9_2, hfz9_3⟩ := bc4_ BK214.out
   go_wp2_with (first | ((with_reducible refine gate_callee (f := 38) rfl ?_); refine goesL_ (some 13) rfl rfl Try.func38 (by kernel_rfl) rfl #[.agg #[.bool a0_0, .int .i64 a0_1, .int .i64 a0_2, .int .i64 a0_3]] rfl al_ ?_; (with_reducible refine (impl_PrefixOk.calls a0_0 a0_1 a0_2 a0_3 true _ A6.out).mono ?_); rintro e w10 ⟨rfl, hb⟩; refine ⟨_, rfl, ?_⟩; have n0_ := Aside0.mk (blk_below (bk_ BK214.out) hb); have n1_ := Aside0.mk (blk_below (bk_ BK215.out) hb); have n2_ := Aside0.mk (below_step (hd_ HB.out GE214.out GE215.out) hb); clear BK214; clear BK215; clear HB; have BK214 := n0_; have BK215 := n1_; have HB := n2_; clear n0_ n1_ n2_; (try clear hb); (try clear hb2); (try clear hk); (try clear hi)))
   go_meet
   case rel => exact ⟨_, (decide ((l1.length : Int) > 300)), (by first | rfl | (simp; done) | (simp [*]; done)), H', ⟨by first | omega | exact Nat.le_refl _⟩, ⟨by refine bk_ ?_; exact BK214.out⟩, ⟨by refine bk_ ?_; exact BK215.out⟩, ⟨hd_ HB.out GE214.out GE215.out⟩⟩
  ·replace c7 := Bool.eq_false_iff.mpr c7
   subst c7
   have H1 : (impl_FirstAddr.j0 k l1 true a0_0 a0_1 a0_2 a0_3) = some (r1, r2, r3, r4) := by rw [if_neg (show ¬ (false = true) by decide)] at H; exact H
   clear H
   have H := H1
   clear H1
   have H' := Aside0.mk H
   clear H
   have hnb11 := NB214_215.out
   have hnc11 := NB215_214.out
   obtain ⟨hcz12_0, hcz12_1, hcz12_2, hcz12_3, hfz12_0, hfz12_1, hfz12_2, hfz12_3⟩ := bc4_ BK214.out
   go_wp2_with (first | ((with_reducible refine gate_callee (f := 38) rfl ?_); refine goesL_ (some 13) rfl rfl Try.func38 (by kernel_rfl) rfl #[.agg #[.bool a0_0, .int .i64 a0_1, .int .i64 a0_2, .int .i64 a0_3]] rfl al_ ?_; (with_reducible refine (impl_PrefixOk.calls a0_0 a0_1 a0_2 a0_3 false _ A6.out).mono ?_); rintro e w13 ⟨rfl, hb⟩; refine ⟨_, rfl, ?_⟩; have n0_ := Aside0.mk (blk_below (bk_ BK214.out) hb); have n1_ := Aside0.mk (blk_below (bk_ BK215.out) hb); have n2_ := Aside0.mk (below_step (hd_ HB.out GE214.out GE215.out) hb); clear BK214; clear BK215; clear HB; have BK214 := n0_; have BK215 := n1_; have HB := n2_; clear n0_ n1_ n2_; (try clear hb); (try clear hb2); (try clear hk); (try clear hi)))
   go_meet
   case rel => exact ⟨_, (true), (by first | rfl | (simp; done) | (simp [*]; done)), H', ⟨by first | omega | exact Nat.le_refl _⟩, ⟨by refine bk_ ?_; exact BK214.out⟩, ⟨by refine bk_ ?_; exact BK215.out⟩, ⟨hd_ HB.out GE214.out GE215.out⟩⟩
 case rest =>
  clear HC3
  try clear c1
  try clear p2
  try clear c3
  try clear c7
  try clear c8
  try clear c11
  try clear hcz12_0
  try clear hcz12_1
  try clear hcz12_2
  try clear hcz12_3
  try clear hcz9_0
  try clear hcz9_1
  try clear hcz9_2
  try clear hcz9_3
  try clear hfz12_0
  try clear hfz12_1
  try clear hfz12_2
  try clear hfz12_3
  try clear hfz9_0
  try clear hfz9_1
  try clear hfz9_2
  try clear hfz9_3
  obtain ⟨kq, x19_2, rfl, HA, HJ2, BK214, BK215, HB⟩ := hcut
  cases kq with
  | zero => exact absurd HA.out (by simp [impl_FirstAddr.j0])
  | succ kj2 =>
   have H := HA.out
   clear HA
   simp only [impl_FirstAddr.j0] at H
   by_cases c14 : x19_2 = true
   ·subst c14
    have H1 : (some (false, 0, 0, false)) = some (r1, r2, r3, r4) := by rw [if_pos rfl] at H; exact H
    clear H
    have H := H1
    clear H1
    simp only [Option.some.injEq, Prod.mk.injEq] at H
    obtain ⟨rfl, rfl, rfl, rfl⟩ := H
    have hnb15 := NB215_214.out
    have hnc15 := NB214_215.out
    obtain ⟨hcz16_0, hcz16_1, hcz16_2, hfz16_0, hfz16_1, hfz16_2⟩ := bc3_ BK215.out
    go_wp2
    refine bodyPost_ret (results_ct rfl _ _ gb215 29 #[.bool false, .int .i64 0, .int .i64 0] (0, 0) _ rfl (by refine bk_ ?_; refine blk_put (cs := #[.bool false, .int .i64 0, .int .i64 0]) ?_ 2 _ rfl; refine bk_ ?_; refine blk_put (cs := #[.bool false, .int .i64 0, .int .i64 0]) ?_ 1 _ rfl; refine bk_ ?_; refine blk_put (cs := #[.bool false, .int .i64 0, .int .i64 0]) ?_ 0 _ rfl; refine bk_ ?_; exact BK215.out) Try.underlying29 rfl (by kernel_rfl)) rfl ?_
    exact ⟨pe_, hd_ HB.out GE214.out GE215.out⟩
   ·replace c14 := Bool.eq_false_iff.mpr c14
    subst c14
    have H1 : (impl_FirstAddr.l0 kj2 l1 0 a0_0 a0_1 a0_2 a0_3) = some (r1, r2, r3, r4) := by rw [if_neg (show ¬ (false = true) by decide)] at H; exact H
    clear H
    have H := H1
    clear H1
    have H' := Aside0.mk H
    clear H
    go_wp2
    go_loopg [6] kj2 (fun kq v6 w' => ∃ (x6_2 : Int) (x216000_2 : Bool) (x216001_2 : Int) (x216002_2 : Int), v6 = .int .i64 x6_2 ∧ Aside0 (impl_FirstAddr.l0 kq l1 x6_2 a0_0 a0_1 a0_2 a0_3 = some (r1, r2, r3, r4)) ∧ Aside0 (kq ≤ kj2) ∧ Aside0 (w'.heap[gb214]? = some (.cells #[.bool a0_0, .int .i64 a0_1, .int .i64 a0_2, .int .i64 a0_3] 31 (0, 0))) ∧ Aside0 (w'.heap[gb215]? = some (.cells #[.bool x216000_2, .int .i64 x216001_2, .int .i64 x216002_2] 29 (0, 0))) ∧ Aside0 (Below w.heap.size w w'))
    case atStart => exact ⟨(0), (false), (0), (0), (by first | rfl | (simp; done) | (simp [*]; done)), H', ⟨Nat.le_refl _⟩, ⟨by refine bk_ ?_; exact BK214.out⟩, ⟨by refine bk_ ?_; exact BK215.out⟩, ⟨hd_ HB.out GE214.out GE215.out⟩⟩
    case round =>
     clear H'
     try clear c1
     try clear p2
     try clear c3
     try clear c7
     try clear c8
     try clear c11
     try clear c14
     try clear c15
     try clear hcz12_0
     try clear hcz12_1
     try clear hcz12_2
     try clear hcz12_3
     try clear hcz16_0
     try clear hcz16_1
     try clear hcz16_2
     try clear hcz9_0
     try clear hcz9_1
     try clear hcz9_2
     try clear hcz9_3
     try clear hfz12_0
     try clear hfz12_1
     try clear hfz12_2
     try clear hfz12_3
     try clear hfz16_0
     try clear hfz16_1
     try clear hfz16_2
     try clear hfz9_0
     try clear hfz9_1
     try clear hfz9_2
     try clear hfz9_3
     try clear p2
     obtain ⟨x6_2, x216000_2, x216001_2, x216002_2, rfl, HA, HK2, BK214, BK215, HB⟩ := hrel
     cases gk with
     | zero => exact absurd HA.out (by simp [impl_FirstAddr.l0])
     | succ k2 =>
      have H := HA.out
      clear HA
      simp only [impl_FirstAddr.l0] at H
      replace H := Option.bind_eq_some_iff.mp H
      obtain ⟨⟨t217, t218, t219, t220⟩, A170, H⟩ := H
      replace H : (if t220 = true then (impl_FirstAddr.l1 k2 l1 x6_2 true l1 (l1.length : Int) 0 a0_0 a0_1 a0_2 a0_3 t217 t218 t219) else (some (false, 0, 0, false))) = some (r1, r2, r3, r4) := H
      have A17 := Aside0.mk A170
      clear A170
      by_cases c18 : t220 = true
      ·subst c18
       have H1 : (impl_FirstAddr.l1 k2 l1 x6_2 true l1 (l1.length : Int) 0 a0_0 a0_1 a0_2 a0_3 t217 t218 t219) = some (r1, r2, r3, r4) := by rw [if_pos rfl] at H; exact H
       clear H
       have H := H1
       clear H1
       have H' := Aside0.mk H
       clear H
       have hnb19 := NB214_215.out
       have hnc19 := NB215_214.out
       obtain ⟨hcz20_0, hcz20_1, hcz20_2, hcz20_3, hfz20_0, hfz20_1, hfz20_2, hfz20_3⟩ := bc4_ BK214.out
       go_wp2_with (first | ((with_reducible refine gate_callee (f := 41) rfl ?_); refine goesL_ (some 26) rfl rfl Try.func41 (by kernel_rfl) rfl #[.agg #[.bool a0_0, .int .i64 a0_1, .int .i64 a0_2, .int .i64 a0_3], .int .i64 x6_2] rfl al_ ?_; (with_reducible refine (impl_NthOf.calls a0_0 a0_1 a0_2 a0_3 x6_2 t217 t218 t219 true _ A17.out).mono ?_); rintro e w21 ⟨rfl, hb⟩; refine ⟨_, rfl, ?_⟩; have n0_ := Aside0.mk (blk_below (bk_ BK214.out) hb); have n1_ := Aside0.mk (blk_below (bk_ BK215.out) hb); have n2_ := Aside0.mk (below_step (hd_ HB.out GE214.out GE215.out) hb); clear BK214; clear BK215; clear HB; have BK214 := n0_; have BK215 := n1_; have HB := n2_; clear n0_ n1_ n2_; (try clear hb); (try clear hb2); (try clear hk); (try clear hi)) | ((with_reducible refine gate_dst (N := 7) rfl ?_); (try (refine gate_guard (by rfl) ?_; dsimp only)); refine box_event ?hg (N := 7) ?hd (cs := #[.bool false, .int .i64 0, .int .i64 0]) (t := 29) ?hr ?_; (case hd => rfl); (case hg => rfl); (case hr => first | (go_simp; done) | (go_simp; rfl)); intro gb221 hg w22 hbox hb; have n0_ := Aside0.mk (blk_below (bk_ BK214.out) hb); have n1_ := Aside0.mk (blk_below (bk_ BK215.out) hb); have n2_ := Aside0.mk (below_step (hd_ HB.out GE214.out GE215.out) hb); have n3_ := Aside0.mk (hbox); have n4_ := bg_ hg (below_size (hd_ HB.out GE214.out GE215.out)); have n5_ := bg_ hg (below_size (hd_ HB.out GE214.out GE215.out)); have n6_ := bn_ hg (blk_lt (bk_ BK214.out)); have n7_ := bm_ hg (blk_lt (bk_ BK214.out)); have n8_ := bn_ hg (blk_lt (bk_ BK215.out)); have n9_ := bm_ hg (blk_lt (bk_ BK215.out)); clear BK214; clear BK215; clear HB; have BK214 := n0_; have BK215 := n1_; have HB := n2_; have BK221 := n3_; have GW221 := n4_; have GE221 := n5_; have NB214_221 := n6_; have NB221_214 := n7_; have NB215_221 := n8_; have NB221_215 := n9_; clear n0_ n1_ n2_ n3_ n4_ n5_ n6_ n7_ n8_ n9_; clear hb hbox hg; have hnb23 := NB221_214.out; have hnc23 := NB214_221.out; have hnb24 := NB221_215.out; have hnc24 := NB215_221.out; obtain ⟨hcz25_0, hcz25_1, hcz25_2, hfz25_0, hfz25_1, hfz25_2⟩ := bc3_ BK221.out))
       go_loopg [9, 34] k2 (fun kq v9 v34 w' => ∃ (x9_3 : Bool) (x34_3 : Int), v9 = .bool x9_3 ∧ v34 = .int .i64 x34_3 ∧ Aside0 (impl_FirstAddr.l1 kq l1 x6_2 x9_3 l1 (l1.length : Int) x34_3 a0_0 a0_1 a0_2 a0_3 t217 t218 t219 = some (r1, r2, r3, r4)) ∧ Aside0 (kq ≤ k2) ∧ Aside0 (w'.heap[gb214]? = some (.cells #[.bool a0_0, .int .i64 a0_1, .int .i64 a0_2, .int .i64 a0_3] 31 (0, 0))) ∧ Aside0 (w'.heap[gb215]? = some (.cells #[.bool x216000_2, .int .i64 x216001_2, .int .i64 x216002_2] 29 (0, 0))) ∧ Aside0 (w'.heap[gb221]? = some (.cells #[.bool t217, .int .i64 t218, .int .i64 t219] 29 (0, 0))) ∧ Aside0 (Below w.heap.size w w'))
       case atStart => exact ⟨(true), (0), (by first | rfl | (simp; done) | (simp [*]; done)), (by first | rfl | (simp; done) | (simp [*]; done)), H', ⟨Nat.le_refl _⟩, ⟨by refine bk_ ?_; refine blk_far ?_ NB214_221.out _; refine bk_ ?_; refine blk_far ?_ NB214_221.out _; refine bk_ ?_; refine blk_far ?_ NB214_221.out _; refine bk_ ?_; exact BK214.out⟩, ⟨by refine bk_ ?_; refine blk_far ?_ NB215_221.out _; refine bk_ ?_; refine blk_far ?_ NB215_221.out _; refine bk_ ?_; refine blk_far ?_ NB215_221.out _; refine bk_ ?_; exact BK215.out⟩, ⟨by refine bk_ ?_; refine blk_put (cs := #[.bool t217, .int .i64 t218, .int .i64 0]) ?_ 2 _ rfl; refine bk_ ?_; refine blk_put (cs := #[.bool t217, .int .i64 0, .int .i64 0]) ?_ 1 _ rfl; refine bk_ ?_; refine blk_put (cs := #[.bool false, .int .i64 0, .int .i64 0]) ?_ 0 _ rfl; refine bk_ ?_; exact BK221.out⟩, ⟨by repeat (first | (with_reducible first | exact HB.out | apply below_alloc | apply pw_below_drewN | apply below_drew1 | refine below_set ?_ GE214.out | refine below_set ?_ GE215.out | refine below_set ?_ GE221.out) | exact HB.out)⟩⟩
       case round =>
        clear H'
        try clear c1
        try clear c2
        try clear p2
        try clear c3
        try clear c4
        try clear c7
        try clear c8
        try clear c11
        try clear c14
        try clear c15
        try clear c18
        try clear c19
        try clear c23
        try clear c24
        try clear hcz12_0
        try clear hcz12_1
        try clear hcz12_2
        try clear hcz12_3
        try clear hcz16_0
        try clear hcz16_1
        try clear hcz16_2
        try clear hcz20_0
        try clear hcz20_1
        try clear hcz20_2
        try clear hcz20_3
        try clear hcz25_0
        try clear hcz25_1
        try clear hcz25_2
        try clear hcz9_0
        try clear hcz9_1
        try clear hcz9_2
        try clear hcz9_3
        try clear hfz12_0
        try clear hfz12_1
        try clear hfz12_2
        try clear hfz12_3
        try clear hfz16_0
        try clear hfz16_1
        try clear hfz16_2
        try clear hfz20_0
        try clear hfz20_1
        try clear hfz20_2
        try clear hfz20_3
        try clear hfz25_0
        try clear hfz25_1
        try clear hfz25_2
        try clear hfz9_0
        try clear hfz9_1
        try clear hfz9_2
        try clear hfz9_3
        try clear p2
        obtain ⟨x9_3, x34_3, rfl, rfl, HA, HK3, BK214, BK215, BK221, HB⟩ := hrel
        cases gk with
        | zero => exact absurd HA.out (by simp [impl_FirstAddr.l1])
        | succ k3 =>
         have H := HA.out
         clear HA
         simp only [impl_FirstAddr.l1] at H
         by_cases c26 : x34_3 < (l1.length : Int)
         ·rw [if_pos c26] at H
          have c26b0 : decide (x34_3 < (l1.length : Int)) = true := decide_eq_true c26
          clear c26
          by_cases c27 : 0 ≤ x34_3
          ·rw [if_pos c27] at H
           have c27b0 : decide (0 ≤ x34_3) = true := decide_eq_true c27
           clear c27
           by_cases c28 : x34_3 < (l1.length : Int)
           ·rw [if_pos c28] at H
            have c28b0 : decide (x34_3 < (l1.length : Int)) = true := decide_eq_true c28
            clear c28
            by_cases c29 : x9_3 = true
            ·subst c29
             have H1 : ((impl_CmpAddr.f k3 ((rd_T29 l1 x34_3).f0) ((rd_T29 l1 x34_3).f1) ((rd_T29 l1 x34_3).f2) t217 t218 t219).bind fun t224 => (impl_FirstAddr.l1 k3 l1 x6_2 (t224 != 0) l1 (l1.length : Int) (wrap64 (x34_3 + 1)) a0_0 a0_1 a0_2 a0_3 t217 t218 t219)) = some (r1, r2, r3, r4) := by rw [if_pos rfl] at H; exact H
             clear H
             have H := H1
             clear H1
             replace H := Option.bind_eq_some_iff.mp H
             obtain ⟨t224, A300, H⟩ := H
             replace H : (impl_FirstAddr.l1 k3 l1 x6_2 (t224 != 0) l1 (l1.length : Int) (wrap64 (x34_3 + 1)) a0_0 a0_1 a0_2 a0_3 t217 t218 t219) = some (r1, r2, r3, r4) := H
             have A30 := Aside0.mk A300
             clear A300
             have H' := Aside0.mk H
             clear H
             have p222 : 0 ≤ (x34_3 : Int) := of_decide_eq_true pa_
             have q222 : x34_3 < (l1.length : Int) := of_decide_eq_true pa_
             obtain ⟨ad222, e222, hx222_0, hx222_1, hx222_2⟩ := at_T29 HR1.out x34_3 p222 q222
             cases e222
             replace hx222_0 := (HB.out.cell (World.block_lt_of_cell? w _ hx222_0)).trans hx222_0
             replace hx222_1 := (HB.out.cell (World.block_lt_of_cell? w _ hx222_1)).trans hx222_1
             replace hx222_2 := (HB.out.cell (World.block_lt_of_cell? w _ hx222_2)).trans hx222_2
             replace p222 := eq_true p222
             replace q222 := eq_true q222
             go_wp2_with (first | ((with_reducible refine gate_dst (N := 11) rfl ?_); (try (refine gate_guard (by rfl) ?_; dsimp only)); refine box_event ?hg (N := 11) ?hd (cs := #[.bool false, .int .i64 0, .int .i64 0]) (t := 29) ?hr ?_; (case hd => rfl); (case hg => rfl); (case hr => first | (go_simp; done) | (go_simp; rfl)); intro gb223 hg w31 hbox hb; have n0_ := Aside0.mk (blk_below (bk_ BK214.out) hb); have n1_ := Aside0.mk (blk_below (bk_ BK215.out) hb); have n2_ := Aside0.mk (blk_below (bk_ BK221.out) hb); have n3_ := Aside0.mk (below_step (by repeat (first | (with_reducible first | exact HB.out | apply below_alloc | apply pw_below_drewN | apply below_drew1 | refine below_set ?_ GE214.out | refine below_set ?_ GE215.out | refine below_set ?_ GE221.out) | exact HB.out)) hb); have n4_ := Aside0.mk (hbox); have n5_ := Aside0.mk ((by rw [hg]; exact (below_size (by repeat (first | (with_reducible first | exact HB.out | apply below_alloc | apply pw_below_drewN | apply below_drew1 | refine below_set ?_ GE214.out | refine below_set ?_ GE215.out | refine below_set ?_ GE221.out) | exact HB.out))) : w.heap.size ≤ gb223)); have n6_ := Aside0.mk ((by rw [hg]; exact (below_size (by repeat (first | (with_reducible first | exact HB.out | apply below_alloc | apply pw_below_drewN | apply below_drew1 | refine below_set ?_ GE214.out | refine below_set ?_ GE215.out | refine below_set ?_ GE221.out) | exact HB.out))) : w.heap.size ≤ gb223)); have n7_ := bn_ hg (blk_lt (bk_ BK214.out)); have n8_ := bm_ hg (blk_lt (bk_ BK214.out)); have n9_ := bn_ hg (blk_lt (bk_ BK215.out)); have n10_ := bm_ hg (blk_lt (bk_ BK215.out)); have n11_ := bn_ hg (blk_lt (bk_ BK221.out)); have n12_ := bm_ hg (blk_lt (bk_ BK221.out)); clear BK214; clear BK215; clear BK221; clear HB; have BK214 := n0_; have BK215 := n1_; have BK221 := n2_; have HB := n3_; have BK223 := n4_; have GW223 := n5_; have GE223 := n6_; have NB214_223 := n7_; have NB223_214 := n8_; have NB215_223 := n9_; have NB223_215 := n10_; have NB221_223 := n11_; have NB223_221 := n12_; clear n0_ n1_ n2_ n3_ n4_ n5_ n6_ n7_ n8_ n9_ n10_ n11_ n12_; clear hb hbox hg; have hnb32 := NB223_214.out; have hnc32 := NB214_223.out; have hnb33 := NB223_215.out; have hnc33 := NB215_223.out; have hnb34 := NB223_221.out; have hnc34 := NB221_223.out; obtain ⟨hcz35_0, hcz35_1, hcz35_2, hfz35_0, hfz35_1, hfz35_2⟩ := bc3_ BK223.out; have hnb36 := NB221_214.out; have hnc36 := NB214_221.out; have hnb37 := NB221_215.out; have hnc37 := NB215_221.out; obtain ⟨hcz38_0, hcz38_1, hcz38_2, hfz38_0, hfz38_1, hfz38_2⟩ := bc3_ BK221.out) | (go_at_call 86; (with_reducible refine (impl_CmpAddr.calls k3 ((rd_T29 l1 x34_3).f0) ((rd_T29 l1 x34_3).f1) ((rd_T29 l1 x34_3).f2) t217 t218 t219 t224 _ A30.out).mono ?_); rintro e w39 ⟨rfl, hb⟩; have n0_ := Aside0.mk (blk_below (g := gb214) (o := .cells #[.bool a0_0, .int .i64 a0_1, .int .i64 a0_2, .int .i64 a0_3] 31 (0, 0)) (by refine bk_ ?_; refine blk_far ?_ NB214_223.out _; refine bk_ ?_; refine blk_far ?_ NB214_223.out _; refine bk_ ?_; refine blk_far ?_ NB214_223.out _; refine bk_ ?_; exact BK214.out) hb); have n1_ := Aside0.mk (blk_below (g := gb215) (o := .cells #[.bool x216000_2, .int .i64 x216001_2, .int .i64 x216002_2] 29 (0, 0)) (by refine bk_ ?_; refine blk_far ?_ NB215_223.out _; refine bk_ ?_; refine blk_far ?_ NB215_223.out _; refine bk_ ?_; refine blk_far ?_ NB215_223.out _; refine bk_ ?_; exact BK215.out) hb); have n2_ := Aside0.mk (blk_below (g := gb221) (o := .cells #[.bool t217, .int .i64 t218, .int .i64 t219] 29 (0, 0)) (by refine bk_ ?_; refine blk_far ?_ NB221_223.out _; refine bk_ ?_; refine blk_far ?_ NB221_223.out _; refine bk_ ?_; refine blk_far ?_ NB221_223.out _; refine bk_ ?_; exact BK221.out) hb); have n3_ := Aside0.mk (blk_below (g := gb223) (o := .cells #[.bool ((rd_T29 l1 x34_3).f0), .int .i64 ((rd_T29 l1 x34_3).f1), .int .i64 ((rd_T29 l1 x34_3).f2)] 29 (0, 0)) (by refine bk_ ?_; refine blk_put (cs := #[.bool ((rd_T29 l1 x34_3).f0), .int .i64 ((rd_T29 l1 x34_3).f1), .int .i64 0]) ?_ 2 _ rfl; refine bk_ ?_; refine blk_put (cs := #[.bool ((rd_T29 l1 x34_3).f0), .int .i64 0, .int .i64 0]) ?_ 1 _ rfl; refine bk_ ?_; refine blk_put (cs := #[.bool false, .int .i64 0, .int .i64 0]) ?_ 0 _ rfl; refine bk_ ?_; exact BK223.out) hb); have n4_ := Aside0.mk (below_step (by repeat (first | (with_reducible first | exact HB.out | apply below_alloc | apply pw_below_drewN | apply below_drew1 | refine below_set ?_ GE214.out | refine below_set ?_ GE215.out | refine below_set ?_ GE221.out | refine below_set ?_ GE223.out) | exact HB.out)) hb); clear BK214; clear BK215; clear BK221; clear BK223; clear HB; have BK214 := n0_; have BK215 := n1_; have BK221 := n2_; have BK223 := n3_; have HB := n4_; clear n0_ n1_ n2_ n3_ n4_; (try clear hb); (try clear hb2); (try clear hk); (try clear hi)))
             go_roundg k3
             case measure => have := HJ2.out; have := HK2.out; have := HK3.out; omega
             case rel => exact ⟨((t224 != 0)), (wrap64 (x34_3 + 1)), (by first | rfl | (simp; done) | (simp [*]; done)), (by first | rfl | (simp; done) | (simp [*]; done)), H', ⟨by have := HJ2.out; have := HK2.out; have := HK3.out; omega⟩, ⟨by refine bk_ ?_; exact BK214.out⟩, ⟨by refine bk_ ?_; exact BK215.out⟩, ⟨by refine bk_ ?_; exact BK221.out⟩, ⟨by repeat (first | (with_reducible first | exact HB.out | apply below_alloc | apply pw_below_drewN | apply below_drew1 | refine below_set ?_ GE214.out | refine below_set ?_ GE215.out | refine below_set ?_ GE221.out | refine below_set ?_ GE223.out) | exact HB.out)⟩⟩
            ·replace c29 := Bool.eq_false_iff.mpr c29
             subst c29
             have H1 : (impl_FirstAddr.l1 k3 l1 x6_2 false l1 (l1.length : Int) (wrap64 (x34_3 + 1)) a0_0 a0_1 a0_2 a0_3 t217 t218 t219) = some (r1, r2, r3, r4) := by rw [if_neg (show ¬ (false = true) by decide)] at H; exact H
             clear H
             have H := H1
             clear H1
             have H' := Aside0.mk H
             clear H
             have p222 : 0 ≤ (x34_3 : Int) := of_decide_eq_true pa_
             have q222 : x34_3 < (l1.length : Int) := of_decide_eq_true pa_
             obtain ⟨ad222, e222, hx222_0, hx222_1, hx222_2⟩ := at_T29 HR1.out x34_3 p222 q222
             cases e222
             replace hx222_0 := (HB.out.cell (World.block_lt_of_cell? w _ hx222_0)).trans hx222_0
             replace hx222_1 := (HB.out.cell (World.block_lt_of_cell? w _ hx222_1)).trans hx222_1
             replace hx222_2 := (HB.out.cell (World.block_lt_of_cell? w _ hx222_2)).trans hx222_2
             replace p222 := eq_true p222
             replace q222 := eq_true q222
             go_wp2_with (first | ((with_reducible refine gate_dst (N := 11) rfl ?_); (try (refine gate_guard (by rfl) ?_; dsimp only)); refine box_event ?hg (N := 11) ?hd (cs := #[.bool false, .int .i64 0, .int .i64 0]) (t := 29) ?hr ?_; (case hd => rfl); (case hg => rfl); (case hr => first | (go_simp; done) | (go_simp; rfl)); intro gb223 hg w40 hbox hb; have n0_ := Aside0.mk (blk_below (bk_ BK214.out) hb); have n1_ := Aside0.mk (blk_below (bk_ BK215.out) hb); have n2_ := Aside0.mk (blk_below (bk_ BK221.out) hb); have n3_ := Aside0.mk (below_step (by repeat (first | (with_reducible first | exact HB.out | apply below_alloc | apply pw_below_drewN | apply below_drew1 | refine below_set ?_ GE214.out | refine below_set ?_ GE215.out | refine below_set ?_ GE221.out) | exact HB.out)) hb); have n4_ := Aside0.mk (hbox); have n5_ := Aside0.mk ((by rw [hg]; exact (below_size (by repeat (first | (with_reducible first | exact HB.out | apply below_alloc | apply pw_below_drewN | apply below_drew1 | refine below_set ?_ GE214.out | refine below_set ?_ GE215.out | refine below_set ?_ GE221.out) | exact HB.out))) : w.heap.size ≤ gb223)); have n6_ := Aside0.mk ((by rw [hg]; exact (below_size (by repeat (first | (with_reducible first | exact HB.out | apply below_alloc | apply pw_below_drewN | apply below_drew1 | refine below_set ?_ GE214.out | refine below_set ?_ GE215.out | refine below_set ?_ GE221.out) | exact HB.out))) : w.heap.size ≤ gb223)); have n7_ := bn_ hg (blk_lt (bk_ BK214.out)); have n8_ := bm_ hg (blk_lt (bk_ BK214.out)); have n9_ := bn_ hg (blk_lt (bk_ BK215.out)); have n10_ := bm_ hg (blk_lt (bk_ BK215.out)); have n11_ := bn_ hg (blk_lt (bk_ BK221.out)); have n12_ := bm_ hg (blk_lt (bk_ BK221.out)); clear BK214; clear BK215; clear BK221; clear HB; have BK214 := n0_; have BK215 := n1_; have BK221 := n2_; have HB := n3_; have BK223 := n4_; have GW223 := n5_; have GE223 := n6_; have NB214_223 := n7_; have NB223_214 := n8_; have NB215_223 := n9_; have NB223_215 := n10_; have NB221_223 := n11_; have NB223_221 := n12_; clear n0_ n1_ n2_ n3_ n4_ n5_ n6_ n7_ n8_ n9_ n10_ n11_ n12_; clear hb hbox hg; have hnb41 := NB223_214.out; have hnc41 := NB214_223.out; have hnb42 := NB223_215.out; have hnc42 := NB215_223.out; have hnb43 := NB223_221.out; have hnc43 := NB221_223.out; obtain ⟨hcz44_0, hcz44_1, hcz44_2, hfz44_0, hfz44_1, hfz44_2⟩ := bc3_ BK223.out))
             go_roundg k3
             case measure => have := HJ2.out; have := HK2.out; have := HK3.out; omega
             case rel => exact ⟨(false), (wrap64 (x34_3 + 1)), (by first | rfl | (simp; done) | (simp [*]; done)), (by first | rfl | (simp; done) | (simp [*]; done)), H', ⟨by have := HJ2.out; have := HK2.out; have := HK3.out; omega⟩, ⟨by refine bk_ ?_; refine blk_far ?_ NB214_223.out _; refine bk_ ?_; refine blk_far ?_ NB214_223.out _; refine bk_ ?_; refine blk_far ?_ NB214_223.out _; refine bk_ ?_; exact BK214.out⟩, ⟨by refine bk_ ?_; refine blk_far ?_ NB215_223.out _; refine bk_ ?_; refine blk_far ?_ NB215_223.out _; refine bk_ ?_; refine blk_far ?_ NB215_223.out _; refine bk_ ?_; exact BK215.out⟩, ⟨by refine bk_ ?_; refine blk_far ?_ NB221_223.out _; refine bk_ ?_; refine blk_far ?_ NB221_223.out _; refine bk_ ?_; refine blk_far ?_ NB221_223.out _; refine bk_ ?_; exact BK221.out⟩, ⟨by repeat (first | (with_reducible first | exact HB.out | apply below_alloc | apply pw_below_drewN | apply below_drew1 | refine below_set ?_ GE214.out | refine below_set ?_ GE215.out | refine below_set ?_ GE221.out | refine below_set ?_ GE223.out) | exact HB.out)⟩⟩
           ·rw [if_neg c28] at H
            exact absurd H (by simp)
          ·rw [if_neg c27] at H
           exact absurd H (by simp)
         ·rw [if_neg c26] at H
          have c26b0 : decide (x34_3 < (l1.length : Int)) = false := decide_eq_false c26
          clear c26
          by_cases c45 : x9_3 = true
          ·subst c45
           have H1 : (some (t217, t218, t219, true)) = some (r1, r2, r3, r4) := by rw [if_pos rfl] at H; exact H
           clear H
           have H := H1
           clear H1
           simp only [Option.some.injEq, Prod.mk.injEq] at H
           obtain ⟨rfl, rfl, rfl, rfl⟩ := H
           have hnb46 := NB221_214.out
           have hnc46 := NB214_221.out
           have hnb47 := NB221_215.out
           have hnc47 := NB215_221.out
           obtain ⟨hcz48_0, hcz48_1, hcz48_2, hfz48_0, hfz48_1, hfz48_2⟩ := bc3_ BK221.out
           have hnb49 := NB215_214.out
           have hnc49 := NB214_215.out
           obtain ⟨hcz50_0, hcz50_1, hcz50_2, hfz50_0, hfz50_1, hfz50_2⟩ := bc3_ BK215.out
           go_wp2
           refine bodyPost_ret (results_ct rfl _ _ gb215 29 #[.bool t217, .int .i64 t218, .int .i64 t219] (0, 0) _ rfl (by refine bk_ ?_; refine blk_put (cs := #[.bool t217, .int .i64 t218, .int .i64 x216002_2]) ?_ 2 _ rfl; refine bk_ ?_; refine blk_put (cs := #[.bool t217, .int .i64 x216001_2, .int .i64 x216002_2]) ?_ 1 _ rfl; refine bk_ ?_; refine blk_put (cs := #[.bool x216000_2, .int .i64 x216001_2, .int .i64 x216002_2]) ?_ 0 _ rfl; refine bk_ ?_; exact BK215.out) Try.underlying29 rfl (by kernel_rfl)) rfl ?_
           exact ⟨pe_, by repeat (first | (with_reducible first | exact HB.out | apply below_alloc | apply pw_below_drewN | apply below_drew1 | refine below_set ?_ GE214.out | refine below_set ?_ GE215.out | refine below_set ?_ GE221.out) | exact HB.out)⟩
          ·replace c45 := Bool.eq_false_iff.mpr c45
           subst c45
           have H1 : (impl_FirstAddr.l0 k3 l1 (wrap64 (x6_2 + 1)) a0_0 a0_1 a0_2 a0_3) = some (r1, r2, r3, r4) := by rw [if_neg (show ¬ (false = true) by decide)] at H; exact H
           clear H
           have H := H1
           clear H1
           have H' := Aside0.mk H
           clear H
           go_wp2
           go_roundg k3
           case measure => have := HJ2.out; have := HK2.out; have := HK3.out; omega
           case rel => exact ⟨(wrap64 (x6_2 + 1)), (x216000_2), (x216001_2), (x216002_2), (by first | rfl | (simp; done) | (simp [*]; done)), H', ⟨by have := HJ2.out; have := HK2.out; have := HK3.out; omega⟩, ⟨by refine bk_ ?_; exact BK214.out⟩, ⟨by refine bk_ ?_; exact BK215.out⟩, ⟨by repeat (first | (with_reducible first | exact HB.out | apply below_alloc | apply pw_below_drewN | apply below_drew1 | refine below_set ?_ GE214.out | refine below_set ?_ GE215.out | refine below_set ?_ GE221.out) | exact HB.out)⟩⟩
      ·replace c18 := Bool.eq_false_iff.mpr c18
       subst c18
       have H1 : (some (false, 0, 0, false)) = some (r1, r2, r3, r4) := by rw [if_neg (show ¬ (false = true) by decide)] at H; exact H
       clear H
       have H := H1
       clear H1
       simp only [Option.some.injEq, Prod.mk.injEq] at H
       obtain ⟨rfl, rfl, rfl, rfl⟩ := H
       have hnb51 := NB214_215.out
       have hnc51 := NB215_214.out
       obtain ⟨hcz52_0, hcz52_1, hcz52_2, hcz52_3, hfz52_0, hfz52_1, hfz52_2, hfz52_3⟩ := bc4_ BK214.out
       go_wp2_with (first | ((with_reducible refine gate_callee (f := 41) rfl ?_); refine goesL_ (some 26) rfl rfl Try.func41 (by kernel_rfl) rfl #[.agg #[.bool a0_0, .int .i64 a0_1, .int .i64 a0_2, .int .i64 a0_3], .int .i64 x6_2] rfl al_ ?_; (with_reducible refine (impl_NthOf.calls a0_0 a0_1 a0_2 a0_3 x6_2 t217 t218 t219 false _ A17.out).mono ?_); rintro e w53 ⟨rfl, hb⟩; refine ⟨_, rfl, ?_⟩; have n0_ := Aside0.mk (blk_below (bk_ BK214.out) hb); have n1_ := Aside0.mk (blk_below (bk_ BK215.out) hb); have n2_ := Aside0.mk (below_step (hd_ HB.out GE214.out GE215.out) hb); clear BK214; clear BK215; clear HB; have BK214 := n0_; have BK215 := n1_; have HB := n2_; clear n0_ n1_ n2_; (try clear hb); (try clear hb2); (try clear hk); (try clear hi)) | ((with_reducible refine gate_dst (N := 7) rfl ?_); (try (refine gate_guard (by rfl) ?_; dsimp only)); refine box_event ?hg (N := 7) ?hd (cs := #[.bool false, .int .i64 0, .int .i64 0]) (t := 29) ?hr ?_; (case hd => rfl); (case hg => rfl); (case hr => first | (go_simp; done) | (go_simp; rfl)); intro gb221 hg w54 hbox hb; have n0_ := Aside0.mk (blk_below (bk_ BK214.out) hb); have n1_ := Aside0.mk (blk_below (bk_ BK215.out) hb); have n2_ := Aside0.mk (below_step (hd_ HB.out GE214.out GE215.out) hb); have n3_ := Aside0.mk (hbox); have n4_ := bg_ hg (below_size (hd_ HB.out GE214.out GE215.out)); have n5_ := bg_ hg (below_size (hd_ HB.out GE214.out GE215.out)); have n6_ := bn_ hg (blk_lt (bk_ BK214.out)); have n7_ := bm_ hg (blk_lt (bk_ BK214.out)); have n8_ := bn_ hg (blk_lt (bk_ BK215.out)); have n9_ := bm_ hg (blk_lt (bk_ BK215.out)); clear BK214; clear BK215; clear HB; have BK214 := n0_; have BK215 := n1_; have HB := n2_; have BK221 := n3_; have GW221 := n4_; have GE221 := n5_; have NB214_221 := n6_; have NB221_214 := n7_; have NB215_221 := n8_; have NB221_215 := n9_; clear n0_ n1_ n2_ n3_ n4_ n5_ n6_ n7_ n8_ n9_; clear hb hbox hg; have hnb55 := NB221_214.out; have hnc55 := NB214_221.out; have hnb56 := NB221_215.out; have hnc56 := NB215_221.out; obtain ⟨hcz57_0, hcz57_1, hcz57_2, hfz57_0, hfz57_1, hfz57_2⟩ := bc3_ BK221.out; obtain ⟨hcz58_0, hcz58_1, hcz58_2, hfz58_0, hfz58_1, hfz58_2⟩ := bc3_ BK215.out))
       refine bodyPost_ret (results_ct rfl _ _ gb215 29 #[.bool false, .int .i64 0, .int .i64 0] (0, 0) _ rfl (by refine bk_ ?_; refine blk_put (cs := #[.bool false, .int .i64 0, .int .i64 x216002_2]) ?_ 2 _ rfl; refine bk_ ?_; refine blk_put (cs := #[.bool false, .int .i64 x216001_2, .int .i64 x216002_2]) ?_ 1 _ rfl; refine bk_ ?_; refine blk_put (cs := #[.bool x216000_2, .int .i64 x216001_2, .int .i64 x216002_2]) ?_ 0 _ rfl; refine bk_ ?_; refine blk_far ?_ NB215_221.out _; refine bk_ ?_; refine blk_far ?_ NB215_221.out _; refine bk_ ?_; refine blk_far ?_ NB215_221.out _; refine bk_ ?_; exact BK215.out) Try.underlying29 rfl (by kernel_rfl)) rfl ?_
       exact ⟨pe_, by repeat (first | (with_reducible first | exact HB.out | apply below_alloc | apply pw_below_drewN | apply below_drew1 | refine below_set ?_ GE214.out | refine below_set ?_ GE215.out | refine below_set ?_ GE221.out) | exact HB.out)⟩

/-! ### laws_big: function 33 -/
def laws_big.f (l0 : List Int) : Option (Bool) := some (decide ((l0.length : Int) > 1048576))
set_option maxHeartbeats 8000000 in
set_option maxRecDepth 100000 in
theorem laws_big.calls (A0 : Option Addr) (c0 : Nat) (l0 : List Int) (r : Bool) (w : World) (hr0 : Kd.C (Kd.int .u8) w A0 l0.length l0) (hc0 : l0.length ≤ c0) (h : laws_big.f l0 = some r) :
  Calls Try.prog 33 #[.slice A0 l0.length c0] w fun e w' => e = .returned (.bool r) ∧ Drawn0 w w' := by
 have HR0 := Aside0.mk hr0
 have HC0 := Aside0.mk hc0
 clear hr0 hc0
 have H : (some (decide ((l0.length : Int) > 1048576))) = some r := h
 clear h
 obtain rfl := Option.some.inj H
 go_enter Try.func33, Try.ntmps33
 go_wp2
 go_ret
 exact ⟨by first | rfl | (simp; done) | (simp [*]; done), by repeat (first | exact Drawn0.refl _ | apply Drawn0.step)⟩

/-- A state of type 159 at block g of W; what its slices lead to came in by w0. -/
def IsS159 (w0 W : World) (g : Nat) (f0 : List Int) (f1 : Int) (f2 : Int) : Prop := ∃ A0 c0, W.heap[g]? = some (.cells #[.slice A0 f0.length c0, .int .i64 f1, .int .i64 f2] 159 (0, 0)) ∧ w0.heap.size ≤ g ∧ Kd.C (Kd.int .u8) w0 A0 f0.length f0
theorem IsS159.grown {w0 W : World} {g : Nat} {f0 : List Int} {f1 : Int} {f2 : Int} {W1 : World} {row : Option Nat} (h : IsS159 w0 W g f0 f1 f2) (hw : W.grownBy W1 row) (hne : some g ≠ row) : IsS159 w0 W1 g f0 f1 f2 := by
 obtain ⟨A0, c0, hb, hg, hr0⟩ := h
 exact ⟨A0, c0, blk_grown hb hw hne, hg, hr0⟩
theorem IsS159.own_neN {w0 W : World} {g : Nat} {f0 : List Int} {f1 : Int} {f2 : Int} {α : Type} {d : Kd α} {e : Nat} {base : Nat} {ok : Nat → Prop} {v : Value} {xs : List α} (h : IsS159 w0 W g f0 f1 f2) (ho : Kd.N d e W base ok v xs) (ht : e ≠ 159) : some g ≠ v.ownBlock := by
 obtain ⟨A0, c0, hb, hg, hr0⟩ := h
 exact Kd.N_ne ho hb ht
theorem IsS159.fresh {w0 W : World} {g : Nat} {f0 : List Int} {f1 : Int} {f2 : Int} (h : IsS159 w0 W g f0 f1 f2) : ∀ k, W.heap.size ≤ k → k ≠ g := by
 obtain ⟨A0, c0, hb, hg, hr0⟩ := h
 exact Kd.freshB hb
theorem IsS159.kept {w0 W : World} {g : Nat} {f0 : List Int} {f1 : Int} {f2 : Int} {W1 : World} {S : Nat → Prop} (h : IsS159 w0 W g f0 f1 f2) (hk : Kept W W1 S) (hne : ¬ S g) : IsS159 w0 W1 g f0 f1 f2 := by
 obtain ⟨A0, c0, hb, hg, hr0⟩ := h
 exact ⟨A0, c0, blk_kept hb hk hne, hg, hr0⟩
theorem IsS159.below {w0 W : World} {g : Nat} {f0 : List Int} {f1 : Int} {f2 : Int} {W1 : World} (h : IsS159 w0 W g f0 f1 f2) (hw : Below W.heap.size W W1) : IsS159 w0 W1 g f0 f1 f2 := h.grown (grown_of_below hw none) (by simp)
theorem IsS159.alloc {w0 W : World} {g : Nat} {f0 : List Int} {f1 : Int} {f2 : Int} (h : IsS159 w0 W g f0 f1 f2) (o : Obj) : IsS159 w0 (W.alloc o) g f0 f1 f2 := h.below (below_alloc (Below.refl _ _) o)
theorem IsS159.drewN {w0 W : World} {g : Nat} {f0 : List Int} {f1 : Int} {f2 : Int} (h : IsS159 w0 W g f0 f1 f2) (m : Nat) : IsS159 w0 (W.drewN m) g f0 f1 f2 := h
theorem IsS159.drew {w0 W : World} {g : Nat} {f0 : List Int} {f1 : Int} {f2 : Int} (h : IsS159 w0 W g f0 f1 f2) : IsS159 w0 W.drew g f0 f1 f2 := h
theorem IsS159.at_ {w0 W : World} {g : Nat} {f0 : List Int} {f1 : Int} {f2 : Int} {w' : World} {m : Nat} (hq : W.drewN m = w') (h : IsS159 w0 W g f0 f1 f2) : IsS159 w0 w' g f0 f1 f2 := by subst hq; exact IsS159.drewN h m
theorem IsS159.apart {w0 W : World} {g : Nat} {f0 : List Int} {f1 : Int} {f2 : Int} {α : Type} {d : Kd α} {e : Nat} {base : Nat} {ok : Nat → Prop} {v : Value} {xs : List α} (h : IsS159 w0 W g f0 f1 f2) (ho : d.R e W base ok v xs) (ht : ∀ q, q ∈ e :: d.E → q ≠ 159) : d.R e W base (fun k => ok k ∧ k ≠ g) v xs := by
 obtain ⟨A0, c0, hb, hg, hr0⟩ := h
 exact Kd.R_types ho hb ht
theorem IsS159.own_ne {w0 W : World} {g : Nat} {f0 : List Int} {f1 : Int} {f2 : Int} {α : Type} {d : Kd α} {e : Nat} {base : Nat} {ok : Nat → Prop} {v : Value} {xs : List α} (h : IsS159 w0 W g f0 f1 f2) (ho : d.R e W base ok v xs) (ht : e ≠ 159) : some g ≠ v.ownBlock := by
 obtain ⟨A0, c0, hb, hg, hr0⟩ := h
 exact Kd.R_ne ho hb ht
theorem IsS159.apartQ {w0 W : World} {g : Nat} {f0 : List Int} {f1 : Int} {f2 : Int} {α : Type} {d : Kd α} {e : Nat} {base : Nat} {ok : Nat → Prop} {v : Value} {xs : List α} (h : IsS159 w0 W g f0 f1 f2) (ho : d.Q e W base ok v xs) (ht : ∀ q, q ∈ e :: d.E → q ≠ 159) : d.Q e W base (fun k => ok k ∧ k ≠ g) v xs := by
 obtain ⟨A0, c0, hb, hg, hr0⟩ := h
 exact Kd.Q_types ho hb ht
theorem IsS159.own_neQ {w0 W : World} {g : Nat} {f0 : List Int} {f1 : Int} {f2 : Int} {α : Type} {d : Kd α} {e : Nat} {base : Nat} {ok : Nat → Prop} {v : Value} {xs : List α} (h : IsS159 w0 W g f0 f1 f2) (ho : d.Q e W base ok v xs) (ht : e ≠ 159) : some g ≠ v.ownBlock := by
 obtain ⟨A0, c0, hb, hg, hr0⟩ := h
 exact Kd.Q_ne ho hb ht
theorem IsS159.apartS {w0 W : World} {g : Nat} {f0 : List Int} {f1 : Int} {f2 : Int} {α : Type} {d : Kd α} {e : Nat} {base : Nat} {ok : Nat → Prop} {v : Value} {xs : List α} (h : IsS159 w0 W g f0 f1 f2) (ho : d.S e W base ok v xs) (ht : ∀ q, q ∈ e :: d.E → q ≠ 159) : d.S e W base (fun k => ok k ∧ k ≠ g) v xs := by
 obtain ⟨A0, c0, hb, hg, hr0⟩ := h
 exact Kd.S_types ho hb ht
theorem IsS159.own_neS {w0 W : World} {g : Nat} {f0 : List Int} {f1 : Int} {f2 : Int} {α : Type} {d : Kd α} {e : Nat} {base : Nat} {ok : Nat → Prop} {v : Value} {xs : List α} (h : IsS159 w0 W g f0 f1 f2) (ho : d.S e W base ok v xs) (ht : e ≠ 159) : some g ≠ v.ownBlock := by
 obtain ⟨A0, c0, hb, hg, hr0⟩ := h
 exact Kd.S_ne ho hb ht
theorem IsS159.lt {w0 W : World} {g : Nat} {f0 : List Int} {f1 : Int} {f2 : Int} (h : IsS159 w0 W g f0 f1 f2) : g < W.heap.size := by
 obtain ⟨A0, c0, hb, hg, hr0⟩ := h
 exact blk_lt hb
theorem IsS159.ge {w0 W : World} {g : Nat} {f0 : List Int} {f1 : Int} {f2 : Int} (h : IsS159 w0 W g f0 f1 f2) : w0.heap.size ≤ g := by
 obtain ⟨A0, c0, hb, hg, hr0⟩ := h
 exact hg
theorem IsS159.ne_blk {w0 W : World} {g : Nat} {f0 : List Int} {f1 : Int} {f2 : Int} {a : Nat} {cs : Array Value} {t : TypeId} {fr : Nat × Nat} (h : IsS159 w0 W g f0 f1 f2) (hb2 : W.heap[a]? = some (.cells cs t fr)) (ht : t ≠ 159) : g ≠ a := by
 obtain ⟨A0, c0, hb, hg, hr0⟩ := h
 rintro rfl
 rw [hb] at hb2
 injection hb2 with hb2
 injection hb2 with _ ht2
 exact ht ht2.symm
theorem IsS159.far {w0 W : World} {g : Nat} {f0 : List Int} {f1 : Int} {f2 : Int} {p : Addr} (h : IsS159 w0 W g f0 f1 f2) (hne : g ≠ p.block) (u : Value) : IsS159 w0 (W.setCell p u) g f0 f1 f2 := by
 obtain ⟨A0, c0, hb, hg, hr0⟩ := h
 exact ⟨A0, c0, blk_far hb hne u, hg, hr0⟩
theorem cellS159_0 {W : World} {g : Nat} {A0 : Option Addr} {c0 : Nat} {f0 : List Int} {f1 : Int} {f2 : Int} (h : W.heap[g]? = some (.cells #[.slice A0 f0.length c0, .int .i64 f1, .int .i64 f2] 159 (0, 0))) : W.cell? ⟨g, 0, none⟩ = some (.slice A0 f0.length c0) := (blk_cell h 0).trans rfl
theorem cellS159_1 {W : World} {g : Nat} {A0 : Option Addr} {c0 : Nat} {f0 : List Int} {f1 : Int} {f2 : Int} (h : W.heap[g]? = some (.cells #[.slice A0 f0.length c0, .int .i64 f1, .int .i64 f2] 159 (0, 0))) : W.cell? ⟨g, 1, none⟩ = some (.int .i64 f1) := (blk_cell h 1).trans rfl
theorem IsS159.set_1 {w0 W : World} {g : Nat} {f0 : List Int} {f1 : Int} {f2 : Int} (h : IsS159 w0 W g f0 f1 f2) (x : Int) : IsS159 w0 (W.setCell ⟨g, 1, none⟩ (.int .i64 x)) g f0 x f2 := by
 obtain ⟨A0, c0, hb, hg, hr0⟩ := h
 exact ⟨A0, c0, by simpa using blk_set hb 1 (.int .i64 x), hg, hr0⟩
theorem cellS159_2 {W : World} {g : Nat} {A0 : Option Addr} {c0 : Nat} {f0 : List Int} {f1 : Int} {f2 : Int} (h : W.heap[g]? = some (.cells #[.slice A0 f0.length c0, .int .i64 f1, .int .i64 f2] 159 (0, 0))) : W.cell? ⟨g, 2, none⟩ = some (.int .i64 f2) := (blk_cell h 2).trans rfl
theorem IsS159.set_2 {w0 W : World} {g : Nat} {f0 : List Int} {f1 : Int} {f2 : Int} (h : IsS159 w0 W g f0 f1 f2) (x : Int) : IsS159 w0 (W.setCell ⟨g, 2, none⟩ (.int .i64 x)) g f0 f1 x := by
 obtain ⟨A0, c0, hb, hg, hr0⟩ := h
 exact ⟨A0, c0, by simpa using blk_set hb 2 (.int .i64 x), hg, hr0⟩
theorem IsS159.new (w0 W : World) (A0 : Option Addr) (c0 : Nat) (f0 : List Int) (f1 : Int) (f2 : Int) (hB : Below w0.heap.size w0 W) (hr0 : Kd.C (Kd.int .u8) w0 A0 f0.length f0) : IsS159 w0 (W.alloc (.cells #[.slice A0 f0.length c0, .int .i64 f1, .int .i64 f2] 159)) W.heap.size f0 f1 f2 := ⟨A0, c0, by simpa using heap_alloc_new W _, hB.size, hr0⟩

/-! ### spec_l1New: function 87 -/
def spec_l1New.l0 : Nat → List Int → Int → Int → Option (List Int × Int × Int)
 | 0, _, _, _ => none
 | k + 1, x0, x3, x4 => if x4 < (x0.length : Int) then (if x4 < 4000 then (if 0 ≤ x4 then (spec_l1New.l0 k x0 (Go.bits .and .i64 (wrap64 ((wrap64 ((wrap64 (x3 * 137)) + (wrap64 (rd x0 x4)))) + 11)) 1073741823) (wrap64 (x4 + 1))) else (none)) else (some (x0, 0, x3))) else (some (x0, 0, x3))
def spec_l1New.f (k : Nat) (l0 : List Int) : Option (List Int × Int × Int) := spec_l1New.l0 k l0 (wrap64 (134134 + (l0.length : Int))) 0
theorem spec_l1New.mono_l : ∀ k, (∀ y0 y1 y2, LeO (spec_l1New.l0 k y0 y1 y2) (spec_l1New.l0 (k + 1) y0 y1 y2))
 | 0 => fun _ _ _ r h => by simp [spec_l1New.l0] at h
 | k + 1 => by
  have ih0 := spec_l1New.mono_l k
  ·intro y0 y1 y2
   unfold spec_l1New.l0
   repeat' first
   | (with_reducible exact ih0 _ _ _)
   | (with_reducible exact LeO.refl _)
   | (with_reducible exact LeO.none _)
   | (with_reducible refine LeO.ite ?_ ?_)
   | (with_reducible refine LeO.bind ?_ (fun _ => ?_))
   | exact ih0 _ _ _
   | exact LeO.none _
   | refine LeO.ite ?_ ?_
   | refine LeO.bind ?_ (fun _ => ?_)
theorem spec_l1New.mono : ∀ a0 k, LeO (spec_l1New.f k a0) (spec_l1New.f (k + 1) a0) := by
 intro a0 k
 have ih0 := spec_l1New.mono_l k
 unfold spec_l1New.f
 repeat' first
   | (with_reducible exact ih0 _ _ _)
   | (with_reducible exact LeO.refl _)
   | (with_reducible exact LeO.none _)
   | (with_reducible refine LeO.ite ?_ ?_)
   | (with_reducible refine LeO.bind ?_ (fun _ => ?_))
   | exact ih0 _ _ _
   | exact LeO.none _
   | refine LeO.ite ?_ ?_
   | refine LeO.bind ?_ (fun _ => ?_)
set_option maxHeartbeats 8000000 in
set_option maxRecDepth 100000 in
theorem spec_l1New.calls (k : Nat) (A0 : Option Addr) (c0 : Nat) (l0 : List Int) (r1 : List Int) (r2 : Int) (r3 : Int) (w0 w : World) (hB : Below w0.heap.size w0 w) (hr0 : Kd.C (Kd.int .u8) w0 A0 l0.length l0) (hc0 : l0.length ≤ c0) (h : spec_l1New.f k l0 = some (r1, r2, r3)) :
  Calls Try.prog 87 #[.slice A0 l0.length c0] w fun e w' => ∃ g_ : Nat, e = .returned (.pointer (some ⟨g_, 0, none⟩)) ∧ IsS159 w0 w' g_ r1 r2 r3 ∧ Below w0.heap.size w0 w' ∧ Below w.heap.size w w' := by
 have hu159 := Try.underlying159
 have HR0 := Aside0.mk hr0
 have HC0 := Aside0.mk hc0
 clear hr0 hc0
 have HBW := Aside0.mk (Below.refl w.heap.size w)
 have HW0 := Aside0.mk hB.size
 have HB := Aside0.mk hB
 clear hB
 have H : (spec_l1New.l0 k l0 (wrap64 (134134 + (l0.length : Int))) 0) = some (r1, r2, r3) := h
 clear h
 have H' := Aside0.mk H
 clear H
 go_enter Try.func87, Try.ntmps87
 go_wp2
 go_loopg [3, 4] k (fun kq v3 v4 w' => ∃ (x3_1 : Int) (x4_1 : Int), v3 = .int .i64 x3_1 ∧ v4 = .int .i64 x4_1 ∧ Aside0 (spec_l1New.l0 kq l0 x3_1 x4_1 = some (r1, r2, r3)) ∧ Aside0 (kq ≤ k) ∧ Aside0 (Below w0.heap.size w0 w') ∧ Aside0 (Below w.heap.size w w'))
 case atStart => exact ⟨(wrap64 (134134 + (l0.length : Int))), (0), (by first | rfl | (simp; done) | (simp [*]; done)), (by first | rfl | (simp; done) | (simp [*]; done)), H', ⟨Nat.le_refl _⟩, ⟨hb_ HB.out⟩, ⟨by repeat (first | (with_reducible first | exact HBW.out | apply below_alloc | apply pw_below_drewN | apply below_drew1) | exact HBW.out)⟩⟩
 case round =>
  clear H'
  obtain ⟨x3_1, x4_1, rfl, rfl, HA, HK1, HB, HBW⟩ := hrel
  cases gk with
  | zero => exact absurd HA.out (by simp [spec_l1New.l0])
  | succ k1 =>
   have H := HA.out
   clear HA
   simp only [spec_l1New.l0] at H
   by_cases c2 : x4_1 < (l0.length : Int)
   ·rw [if_pos c2] at H
    have c2b0 : decide (x4_1 < (l0.length : Int)) = true := decide_eq_true c2
    clear c2
    by_cases c3 : x4_1 < 4000
    ·rw [if_pos c3] at H
     have c3b0 : decide (x4_1 < 4000) = true := decide_eq_true c3
     clear c3
     by_cases c4 : 0 ≤ x4_1
     ·rw [if_pos c4] at H
      have c4b0 : decide (0 ≤ x4_1) = true := decide_eq_true c4
      clear c4
      have H' := Aside0.mk H
      clear H
      have p225 : 0 ≤ (x4_1 : Int) := of_decide_eq_true pa_
      have q225 : x4_1 < (l0.length : Int) := of_decide_eq_true pa_
      obtain ⟨ad225, e225, hx225_0⟩ := Kd.at_int HR0.out x4_1 p225 q225
      cases e225
      replace hx225_0 := pw_cell_below HB.out hx225_0
      replace p225 := eq_true p225
      replace q225 := eq_true q225
      go_wp2
      go_roundg k1
      case measure => have := HK1.out; omega
      case rel => exact ⟨(Go.bits .and .i64 (wrap64 ((wrap64 ((wrap64 (x3_1 * 137)) + (wrap64 (rd l0 x4_1)))) + 11)) 1073741823), (wrap64 (x4_1 + 1)), (by first | rfl | (simp; done) | (simp [*]; done)), (by first | rfl | (simp; done) | (simp [*]; done)), H', ⟨by have := HK1.out; omega⟩, ⟨hb_ HB.out⟩, ⟨by repeat (first | (with_reducible first | exact HBW.out | apply below_alloc | apply pw_below_drewN | apply below_drew1) | exact HBW.out)⟩⟩
     ·rw [if_neg c4] at H
      exact absurd H (by simp)
    ·rw [if_neg c3] at H
     have c3b0 : decide (x4_1 < 4000) = false := decide_eq_false c3
     clear c3
     simp only [Option.some.injEq, Prod.mk.injEq] at H
     obtain ⟨rfl, rfl, rfl⟩ := H
     go_wp2_with (first | ((with_reducible refine gate_dst (N := 31) rfl ?_); refine box_event ?hg (N := 31) ?hd (cs := #[.slice A0 l0.length c0, .int .i64 0, .int .i64 x3_1]) (t := 159) ?hr ?_; (case hd => rfl); (case hg => rfl); (case hr => first | (go_simp; done) | (go_simp; rfl)); intro gb226 hg w5 hbox hb; have n0_ := Aside0.mk (below_step HBW.out hb); have n1_ := Aside0.mk (below_step (hb_ HB.out) hb); have n2_ := Aside0.mk (hbox); have n3_ := Aside0.mk ((by rw [hg]; exact (below_size (by repeat (first | (with_reducible first | exact HBW.out | apply below_alloc | apply pw_below_drewN | apply below_drew1) | exact HBW.out))) : w.heap.size ≤ gb226)); have n4_ := Aside0.mk ((Nat.le_trans HW0.out (by rw [hg]; exact (below_size (by repeat (first | (with_reducible first | exact HBW.out | apply below_alloc | apply pw_below_drewN | apply below_drew1) | exact HBW.out))) : w.heap.size ≤ gb226) : w0.heap.size ≤ gb226)); clear HBW; clear HB; have HBW := n0_; have HB := n1_; have BK226 := n2_; have GW226 := n3_; have GE226 := n4_; clear n0_ n1_ n2_ n3_ n4_; clear hb hbox hg))
     go_ret
     exact ⟨_, rfl, (show IsS159 w0 _ gb226 l0 0 x3_1 from ⟨_, _, by refine bk_ ?_; exact BK226.out, GE226.out, HR0.out⟩), hc_ HB.out GE226.out, by repeat (first | (with_reducible first | exact HBW.out | apply below_alloc | apply pw_below_drewN | apply below_drew1 | refine below_set ?_ GW226.out) | exact HBW.out)⟩
   ·rw [if_neg c2] at H
    have c2b0 : decide (x4_1 < (l0.length : Int)) = false := decide_eq_false c2
    clear c2
    simp only [Option.some.injEq, Prod.mk.injEq] at H
    obtain ⟨rfl, rfl, rfl⟩ := H
    go_wp2_with (first | ((with_reducible refine gate_dst (N := 31) rfl ?_); refine box_event ?hg (N := 31) ?hd (cs := #[.slice A0 l0.length c0, .int .i64 0, .int .i64 x3_1]) (t := 159) ?hr ?_; (case hd => rfl); (case hg => rfl); (case hr => first | (go_simp; done) | (go_simp; rfl)); intro gb227 hg w6 hbox hb; have n0_ := Aside0.mk (below_step HBW.out hb); have n1_ := Aside0.mk (below_step (hb_ HB.out) hb); have n2_ := Aside0.mk (hbox); have n3_ := Aside0.mk ((by rw [hg]; exact (below_size (by repeat (first | (with_reducible first | exact HBW.out | apply below_alloc | apply pw_below_drewN | apply below_drew1) | exact HBW.out))) : w.heap.size ≤ gb227)); have n4_ := Aside0.mk ((Nat.le_trans HW0.out (by rw [hg]; exact (below_size (by repeat (first | (with_reducible first | exact HBW.out | apply below_alloc | apply pw_below_drewN | apply below_drew1) | exact HBW.out))) : w.heap.size ≤ gb227) : w0.heap.size ≤ gb227)); clear HBW; clear HB; have HBW := n0_; have HB := n1_; have BK227 := n2_; have GW227 := n3_; have GE227 := n4_; clear n0_ n1_ n2_ n3_ n4_; clear hb hbox hg))
    go_ret
    exact ⟨_, rfl, (show IsS159 w0 _ gb227 l0 0 x3_1 from ⟨_, _, by refine bk_ ?_; exact BK227.out, GE227.out, HR0.out⟩), hc_ HB.out GE227.out, by repeat (first | (with_reducible first | exact HBW.out | apply below_alloc | apply pw_below_drewN | apply below_drew1 | refine below_set ?_ GW227.out) | exact HBW.out)⟩

/-! ### spec_l1Byte: function 156 -/
def spec_l1Byte.f (s0_0 : List Int) (s0_1 : Int) (s0_2 : Int) : Option (Int × Int × Int) := if s0_1 < (s0_0.length : Int) then (if 0 ≤ s0_1 then (some (Go.bits .and .i64 (wrap64 ((Go.bits .and .i64 (Go.bits .xor .i64 ((wrap64 ((wrap64 (s0_2 * 6364136223846793005)) + 1442695040888963407)) / 8589934592) ((wrap64 ((wrap64 (s0_2 * 6364136223846793005)) + 1442695040888963407)) / 140737488355328)) 255) + (wrap64 (rd s0_0 s0_1)))) 255, wrap64 (s0_1 + 1), wrap64 ((wrap64 (s0_2 * 6364136223846793005)) + 1442695040888963407))) else (none)) else (some (Go.bits .and .i64 (Go.bits .xor .i64 ((wrap64 ((wrap64 (s0_2 * 6364136223846793005)) + 1442695040888963407)) / 8589934592) ((wrap64 ((wrap64 (s0_2 * 6364136223846793005)) + 1442695040888963407)) / 140737488355328)) 255, s0_1, wrap64 ((wrap64 (s0_2 * 6364136223846793005)) + 1442695040888963407)))
set_option maxHeartbeats 8000000 in
set_option maxRecDepth 100000 in
theorem spec_l1Byte.calls (g : Nat) (s0_0 : List Int) (s0_1 : Int) (s0_2 : Int) (r1 : Int) (r2 : Int) (r3 : Int) (w0 w : World) (hI : IsS159 w0 w g s0_0 s0_1 s0_2) (hB : Below w0.heap.size w0 w) (h : spec_l1Byte.f s0_0 s0_1 s0_2 = some (r1, r2, r3)) :
  Calls Try.prog 156 #[.pointer (some ⟨g, 0, none⟩)] w fun e w' => e = .returned (.int .i64 r1) ∧ IsS159 w0 w' g s0_0 r2 r3 ∧ Below w0.heap.size w0 w' ∧ KeepBut w w' g none := by
 have HI0 := Aside0.mk hI
 have HK := Aside0.mk (KeepBut.refl w g none)
 have HL := Aside0.mk hB.size
 clear hI
 have HW0 := Aside0.mk hB.size
 have HB := Aside0.mk hB
 clear hB
 have H : (if s0_1 < (s0_0.length : Int) then (if 0 ≤ s0_1 then (some (Go.bits .and .i64 (wrap64 ((Go.bits .and .i64 (Go.bits .xor .i64 ((wrap64 ((wrap64 (s0_2 * 6364136223846793005)) + 1442695040888963407)) / 8589934592) ((wrap64 ((wrap64 (s0_2 * 6364136223846793005)) + 1442695040888963407)) / 140737488355328)) 255) + (wrap64 (rd s0_0 s0_1)))) 255, wrap64 (s0_1 + 1), wrap64 ((wrap64 (s0_2 * 6364136223846793005)) + 1442695040888963407))) else (none)) else (some (Go.bits .and .i64 (Go.bits .xor .i64 ((wrap64 ((wrap64 (s0_2 * 6364136223846793005)) + 1442695040888963407)) / 8589934592) ((wrap64 ((wrap64 (s0_2 * 6364136223846793005)) + 1442695040888963407)) / 140737488355328)) 255, s0_1, wrap64 ((wrap64 (s0_2 * 6364136223846793005)) + 1442695040888963407)))) = some (r1, r2, r3) := h
 clear h
 by_cases c2 : s0_1 < (s0_0.length : Int)
 ·rw [if_pos c2] at H
  have c2b0 : decide (s0_1 < (s0_0.length : Int)) = true := decide_eq_true c2
  clear c2
  by_cases c3 : 0 ≤ s0_1
  ·rw [if_pos c3] at H
   have c3b0 : decide (0 ≤ s0_1) = true := decide_eq_true c3
   clear c3
   simp only [Option.some.injEq, Prod.mk.injEq] at H
   obtain ⟨rfl, rfl, rfl⟩ := H
   obtain ⟨ASz4_0, cSz4_0, HGz4, hgz4, HSz4_0⟩ := HI0.out
   have hcz4_0 := cellS159_0 HGz4
   have hcz4_1 := cellS159_1 HGz4
   have hcz4_2 := cellS159_2 HGz4
   have hfz4_1 := blk_frozen HGz4 1
   have hfz4_2 := blk_frozen HGz4 2
   clear HGz4 hgz4
   have p228 : 0 ≤ (s0_1 : Int) := of_decide_eq_true pa_
   have q228 : s0_1 < (s0_0.length : Int) := of_decide_eq_true pa_
   obtain ⟨ad228, e228, hx228_0⟩ := Kd.at_int HSz4_0 s0_1 p228 q228
   cases e228
   have hn228_0 : ad228.block ≠ g := Nat.ne_of_lt (Nat.lt_of_lt_of_le (by have := World.block_lt_of_cell? _ _ hx228_0; first | rwa [add_block] at this | exact this) (IsS159.ge HI0.out))
   replace hx228_0 := pw_cell_below HB.out hx228_0
   replace hx228_0 := (cell_far (p := ⟨g, 2, none⟩) (by first | (rw [add_block]; exact hn228_0) | (show (Addr.add _ _).block ≠ _; rw [add_block]; exact hn228_0) | exact hn228_0) (.int .i64 (wrap64 ((wrap64 (s0_2 * 6364136223846793005)) + 1442695040888963407)))).trans hx228_0
   (try have hy228_0 := fun (n_ : Nat) => (show (((w.drewN n_).setCell ⟨g, 2, none⟩ (.int .i64 (wrap64 ((wrap64 (s0_2 * 6364136223846793005)) + 1442695040888963407))))).cell? _ = some _ from hx228_0))
   clear hn228_0
   replace p228 := eq_true p228
   replace q228 := eq_true q228
   go_enter Try.func156, Try.ntmps156
   go_wp2
   repeat (go_quiet (fail); try go_wp2)
   go_ret
   exact ⟨pe_, by repeat (first | (with_reducible first | exact HI0.out | apply IsS159.alloc | apply IsS159.drewN | apply IsS159.drew | apply IsS159.set_1 | apply IsS159.set_2) | exact HI0.out), by repeat (first | (with_reducible first | exact HB.out | apply below_alloc | apply pw_below_drewN | apply below_drew1 | refine below_set ?_ (IsS159.ge HI0.out)) | exact HB.out), by repeat (first | (with_reducible first | exact HK.out | apply KeepBut.set_ | apply keep_drewN | apply keep_drew | apply keep_alloc) | exact HK.out)⟩
  ·rw [if_neg c3] at H
   exact absurd H (by simp)
 ·rw [if_neg c2] at H
  have c2b0 : decide (s0_1 < (s0_0.length : Int)) = false := decide_eq_false c2
  clear c2
  simp only [Option.some.injEq, Prod.mk.injEq] at H
  obtain ⟨rfl, rfl, rfl⟩ := H
  obtain ⟨ASz5_0, cSz5_0, HGz5, hgz5, HSz5_0⟩ := HI0.out
  have hcz5_0 := cellS159_0 HGz5
  have hcz5_1 := cellS159_1 HGz5
  have hcz5_2 := cellS159_2 HGz5
  have hfz5_1 := blk_frozen HGz5 1
  have hfz5_2 := blk_frozen HGz5 2
  clear HGz5 hgz5
  go_enter Try.func156, Try.ntmps156
  go_wp2
  repeat (go_quiet (fail); try go_wp2)
  go_ret
  exact ⟨pe_, by repeat (first | (with_reducible first | exact HI0.out | apply IsS159.alloc | apply IsS159.drewN | apply IsS159.drew | apply IsS159.set_1 | apply IsS159.set_2) | exact HI0.out), by repeat (first | (with_reducible first | exact HB.out | apply below_alloc | apply pw_below_drewN | apply below_drew1 | refine below_set ?_ (IsS159.ge HI0.out)) | exact HB.out), by repeat (first | (with_reducible first | exact HK.out | apply KeepBut.set_ | apply keep_drewN | apply keep_drew | apply keep_alloc) | exact HK.out)⟩

/-! ### spec_l1Below: function 104 -/
def spec_l1Below.f (s0_0 : List Int) (s0_1 : Int) (s0_2 : Int) (a1 : Int) : Option (Int × Int × Int) := if a1 ≤ 0 then (some (0, s0_1, s0_2)) else (if a1 ≤ 256 then ((spec_l1Byte.f s0_0 s0_1 s0_2).bind fun bt229 => (if a1 = 0 then (none) else (some (Int.tmod bt229.1 a1, bt229.2.1, bt229.2.2)))) else ((spec_l1Byte.f s0_0 s0_1 s0_2).bind fun bt232 => ((spec_l1Byte.f s0_0 bt232.2.1 bt232.2.2).bind fun bt235 => ((spec_l1Byte.f s0_0 bt235.2.1 bt235.2.2).bind fun bt238 => (if a1 = 0 then (none) else (some (Int.tmod (wrap64 ((wrap64 ((wrap64 (bt232.1 * 65536)) + (wrap64 (bt235.1 * 256)))) + bt238.1)) a1, bt238.2.1, bt238.2.2)))))))
set_option maxHeartbeats 8000000 in
set_option maxRecDepth 100000 in
theorem spec_l1Below.calls (g : Nat) (s0_0 : List Int) (s0_1 : Int) (s0_2 : Int) (a1 : Int) (r1 : Int) (r2 : Int) (r3 : Int) (w0 w : World) (hI : IsS159 w0 w g s0_0 s0_1 s0_2) (hB : Below w0.heap.size w0 w) (h : spec_l1Below.f s0_0 s0_1 s0_2 a1 = some (r1, r2, r3)) :
  Calls Try.prog 104 #[.pointer (some ⟨g, 0, none⟩), .int .i64 a1] w fun e w' => e = .returned (.int .i64 r1) ∧ IsS159 w0 w' g s0_0 r2 r3 ∧ Below w0.heap.size w0 w' ∧ KeepBut w w' g none := by
 have HI0 := Aside0.mk hI
 have HK := Aside0.mk (KeepBut.refl w g none)
 have HL := Aside0.mk hB.size
 clear hI
 have HW0 := Aside0.mk hB.size
 have HB := Aside0.mk hB
 clear hB
 have H : (if a1 ≤ 0 then (some (0, s0_1, s0_2)) else (if a1 ≤ 256 then ((spec_l1Byte.f s0_0 s0_1 s0_2).bind fun bt229 => (if a1 = 0 then (none) else (some (Int.tmod bt229.1 a1, bt229.2.1, bt229.2.2)))) else ((spec_l1Byte.f s0_0 s0_1 s0_2).bind fun bt232 => ((spec_l1Byte.f s0_0 bt232.2.1 bt232.2.2).bind fun bt235 => ((spec_l1Byte.f s0_0 bt235.2.1 bt235.2.2).bind fun bt238 => (if a1 = 0 then (none) else (some (Int.tmod (wrap64 ((wrap64 ((wrap64 (bt232.1 * 65536)) + (wrap64 (bt235.1 * 256)))) + bt238.1)) a1, bt238.2.1, bt238.2.2)))))))) = some (r1, r2, r3) := h
 clear h
 by_cases c3 : a1 ≤ 0
 ·rw [if_pos c3] at H
  have c3b0 : decide (a1 ≤ 0) = true := decide_eq_true c3
  clear c3
  simp only [Option.some.injEq, Prod.mk.injEq] at H
  obtain ⟨rfl, rfl, rfl⟩ := H
  go_enter Try.func104, Try.ntmps104
  go_wp2
  go_ret
  exact ⟨pe_, by repeat (first | (with_reducible first | exact HI0.out | apply IsS159.alloc | apply IsS159.drewN | apply IsS159.drew | apply IsS159.set_1 | apply IsS159.set_2) | exact HI0.out), by repeat (first | (with_reducible first | exact HB.out | apply below_alloc | apply pw_below_drewN | apply below_drew1 | refine below_set ?_ (IsS159.ge HI0.out)) | exact HB.out), by repeat (first | (with_reducible first | exact HK.out | apply KeepBut.set_ | apply keep_drewN | apply keep_drew | apply keep_alloc) | exact HK.out)⟩
 ·rw [if_neg c3] at H
  have c3b0 : decide (a1 ≤ 0) = false := decide_eq_false c3
  clear c3
  by_cases c4 : a1 ≤ 256
  ·rw [if_pos c4] at H
   have c4b0 : decide (a1 ≤ 256) = true := decide_eq_true c4
   clear c4
   replace H := Option.bind_eq_some_iff.mp H
   obtain ⟨⟨t229, t230, t231⟩, A50, H⟩ := H
   replace H : (if a1 = 0 then (none) else (some (Int.tmod t229 a1, t230, t231))) = some (r1, r2, r3) := H
   have A5 := Aside0.mk A50
   clear A50
   by_cases c6 : a1 = 0
   ·rw [if_pos c6] at H
    exact absurd H (by simp)
   ·rw [if_neg c6] at H
    have c6b0 : (a1 == 0) = false := beq_eq_false_iff_ne.mpr c6
    have c6b1 : (a1 != 0) = true := bne_iff_ne.mpr c6
    simp only [Option.some.injEq, Prod.mk.injEq] at H
    obtain ⟨rfl, rfl, rfl⟩ := H
    go_enter Try.func104, Try.ntmps104
    go_wp2_with (first | ((with_reducible refine gate_callee (f := 156) rfl ?_); refine goesL_ (some 13) rfl rfl Try.func156 (by kernel_rfl) rfl #[.pointer (some ⟨g, 0, none⟩)] rfl al_ ?_; (with_reducible refine (spec_l1Byte.calls g s0_0 s0_1 s0_2 t229 t230 t231 w0 _ ?side1 ?side2 A5.out).mono ?_); (case side1 => repeat (first | (with_reducible first | exact HI0.out | apply IsS159.alloc | apply IsS159.drewN | apply IsS159.drew | apply IsS159.set_1 | apply IsS159.set_2) | exact HI0.out)); (case side2 => repeat (first | (with_reducible first | exact HB.out | apply below_alloc | apply pw_below_drewN | apply below_drew1 | refine below_set ?_ (IsS159.ge HI0.out)) | exact HB.out)); rintro e w7 ⟨rfl, hi, hb, hk⟩; refine ⟨_, rfl, ?_⟩; have n0_ := Aside0.mk (KeepBut.trans (by repeat (first | (with_reducible first | exact HK.out | apply KeepBut.set_ | apply keep_drewN | apply keep_drew | apply keep_alloc) | exact HK.out)) hk (.inl rfl)); have n1_ := Aside0.mk (hb); have n2_ := Aside0.mk (hi); clear HK; clear HB; clear HI0; have HK := n0_; have HB := n1_; have HI0 := n2_; clear n0_ n1_ n2_; (try clear hb); (try clear hb2); (try clear hk); (try clear hi)))
    go_ret
    exact ⟨pe_, by repeat (first | (with_reducible first | exact HI0.out | apply IsS159.alloc | apply IsS159.drewN | apply IsS159.drew | apply IsS159.set_1 | apply IsS159.set_2) | exact HI0.out), by repeat (first | (with_reducible first | exact HB.out | apply below_alloc | apply pw_below_drewN | apply below_drew1 | refine below_set ?_ (IsS159.ge HI0.out)) | exact HB.out), by repeat (first | (with_reducible first | exact HK.out | apply KeepBut.set_ | apply keep_drewN | apply keep_drew | apply keep_alloc) | exact HK.out)⟩
  ·rw [if_neg c4] at H
   have c4b0 : decide (a1 ≤ 256) = false := decide_eq_false c4
   clear c4
   replace H := Option.bind_eq_some_iff.mp H
   obtain ⟨⟨t232, t233, t234⟩, A80, H⟩ := H
   replace H : ((spec_l1Byte.f s0_0 t233 t234).bind fun bt235 => ((spec_l1Byte.f s0_0 bt235.2.1 bt235.2.2).bind fun bt238 => (if a1 = 0 then (none) else (some (Int.tmod (wrap64 ((wrap64 ((wrap64 (t232 * 65536)) + (wrap64 (bt235.1 * 256)))) + bt238.1)) a1, bt238.2.1, bt238.2.2))))) = some (r1, r2, r3) := H
   have A8 := Aside0.mk A80
   clear A80
   replace H := Option.bind_eq_some_iff.mp H
   obtain ⟨⟨t235, t236, t237⟩, A90, H⟩ := H
   replace H : ((spec_l1Byte.f s0_0 t236 t237).bind fun bt238 => (if a1 = 0 then (none) else (some (Int.tmod (wrap64 ((wrap64 ((wrap64 (t232 * 65536)) + (wrap64 (t235 * 256)))) + bt238.1)) a1, bt238.2.1, bt238.2.2)))) = some (r1, r2, r3) := H
   have A9 := Aside0.mk A90
   clear A90
   replace H := Option.bind_eq_some_iff.mp H
   obtain ⟨⟨t238, t239, t240⟩, A100, H⟩ := H
   replace H : (if a1 = 0 then (none) else (some (Int.tmod (wrap64 ((wrap64 ((wrap64 (t232 * 65536)) + (wrap64 (t235 * 256)))) + t238)) a1, t239, t240))) = some (r1, r2, r3) := H
   have A10 := Aside0.mk A100
   clear A100
   by_cases c11 : a1 = 0
   ·rw [if_pos c11] at H
    exact absurd H (by simp)
   ·rw [if_neg c11] at H
    have c11b0 : (a1 == 0) = false := beq_eq_false_iff_ne.mpr c11
    have c11b1 : (a1 != 0) = true := bne_iff_ne.mpr c11
    simp only [Option.some.injEq, Prod.mk.injEq] at H
    obtain ⟨rfl, rfl, rfl⟩ := H
    go_enter Try.func104, Try.ntmps104
    go_wp2_with (first | ((with_reducible refine gate_callee (f := 156) rfl ?_); refine goesL_ (some 17) rfl rfl Try.func156 (by kernel_rfl) rfl #[.pointer (some ⟨g, 0, none⟩)] rfl al_ ?_; (with_reducible refine (spec_l1Byte.calls g s0_0 s0_1 s0_2 t232 t233 t234 w0 _ ?side1 ?side2 A8.out).mono ?_); (case side1 => repeat (first | (with_reducible first | exact HI0.out | apply IsS159.alloc | apply IsS159.drewN | apply IsS159.drew | apply IsS159.set_1 | apply IsS159.set_2) | exact HI0.out)); (case side2 => repeat (first | (with_reducible first | exact HB.out | apply below_alloc | apply pw_below_drewN | apply below_drew1 | refine below_set ?_ (IsS159.ge HI0.out)) | exact HB.out)); rintro e w12 ⟨rfl, hi, hb, hk⟩; refine ⟨_, rfl, ?_⟩; have n0_ := Aside0.mk (KeepBut.trans (by repeat (first | (with_reducible first | exact HK.out | apply KeepBut.set_ | apply keep_drewN | apply keep_drew | apply keep_alloc) | exact HK.out)) hk (.inl rfl)); have n1_ := Aside0.mk (hb); have n2_ := Aside0.mk (hi); clear HK; clear HB; clear HI0; have HK := n0_; have HB := n1_; have HI0 := n2_; clear n0_ n1_ n2_; (try clear hb); (try clear hb2); (try clear hk); (try clear hi)) | ((with_reducible refine gate_callee (f := 156) rfl ?_); refine goesL_ (some 19) rfl rfl Try.func156 (by kernel_rfl) rfl #[.pointer (some ⟨g, 0, none⟩)] rfl al_ ?_; (with_reducible refine (spec_l1Byte.calls g s0_0 t233 t234 t235 t236 t237 w0 _ ?side1 ?side2 A9.out).mono ?_); (case side1 => repeat (first | (with_reducible first | exact HI0.out | apply IsS159.alloc | apply IsS159.drewN | apply IsS159.drew | apply IsS159.set_1 | apply IsS159.set_2) | exact HI0.out)); (case side2 => repeat (first | (with_reducible first | exact HB.out | apply below_alloc | apply pw_below_drewN | apply below_drew1 | refine below_set ?_ (IsS159.ge HI0.out)) | exact HB.out)); rintro e w13 ⟨rfl, hi, hb, hk⟩; refine ⟨_, rfl, ?_⟩; have n0_ := Aside0.mk (KeepBut.trans (by repeat (first | (with_reducible first | exact HK.out | apply KeepBut.set_ | apply keep_drewN | apply keep_drew | apply keep_alloc) | exact HK.out)) hk (.inl rfl)); have n1_ := Aside0.mk (hb); have n2_ := Aside0.mk (hi); clear HK; clear HB; clear HI0; have HK := n0_; have HB := n1_; have HI0 := n2_; clear n0_ n1_ n2_; (try clear hb); (try clear hb2); (try clear hk); (try clear hi)) | ((with_reducible refine gate_callee (f := 156) rfl ?_); refine goesL_ (some 21) rfl rfl Try.func156 (by kernel_rfl) rfl #[.pointer (some ⟨g, 0, none⟩)] rfl al_ ?_; (with_reducible refine (spec_l1Byte.calls g s0_0 t236 t237 t238 t239 t240 w0 _ ?side1 ?side2 A10.out).mono ?_); (case side1 => repeat (first | (with_reducible first | exact HI0.out | apply IsS159.alloc | apply IsS159.drewN | apply IsS159.drew | apply IsS159.set_1 | apply IsS159.set_2) | exact HI0.out)); (case side2 => repeat (first | (with_reducible first | exact HB.out | apply below_alloc | apply pw_below_drewN | apply below_drew1 | refine below_set ?_ (IsS159.ge HI0.out)) | exact HB.out)); rintro e w14 ⟨rfl, hi, hb, hk⟩; refine ⟨_, rfl, ?_⟩; have n0_ := Aside0.mk (KeepBut.trans (by repeat (first | (with_reducible first | exact HK.out | apply KeepBut.set_ | apply keep_drewN | apply keep_drew | apply keep_alloc) | exact HK.out)) hk (.inl rfl)); have n1_ := Aside0.mk (hb); have n2_ := Aside0.mk (hi); clear HK; clear HB; clear HI0; have HK := n0_; have HB := n1_; have HI0 := n2_; clear n0_ n1_ n2_; (try clear hb); (try clear hb2); (try clear hk); (try clear hi)))
    go_ret
    exact ⟨pe_, by repeat (first | (with_reducible first | exact HI0.out | apply IsS159.alloc | apply IsS159.drewN | apply IsS159.drew | apply IsS159.set_1 | apply IsS159.set_2) | exact HI0.out), by repeat (first | (with_reducible first | exact HB.out | apply below_alloc | apply pw_below_drewN | apply below_drew1 | refine below_set ?_ (IsS159.ge HI0.out)) | exact HB.out), by repeat (first | (with_reducible first | exact HK.out | apply KeepBut.set_ | apply keep_drewN | apply keep_drew | apply keep_alloc) | exact HK.out)⟩

/-! ### spec_l1Int: function 151 -/
def spec_l1Int.f (s0_0 : List Int) (s0_1 : Int) (s0_2 : Int) (l1 : List Int) : Option (Int × Int × Int) := (spec_l1Below.f s0_0 s0_1 s0_2 (l1.length : Int)).bind fun bt241 => (if 0 ≤ bt241.1 then (if bt241.1 < (l1.length : Int) then (some (rd l1 bt241.1, bt241.2.1, bt241.2.2)) else (none)) else (none))
set_option maxHeartbeats 8000000 in
set_option maxRecDepth 100000 in
theorem spec_l1Int.calls (g : Nat) (s0_0 : List Int) (s0_1 : Int) (s0_2 : Int) (A1 : Option Addr) (c1 : Nat) (l1 : List Int) (r1 : Int) (r2 : Int) (r3 : Int) (w0 w : World) (hI : IsS159 w0 w g s0_0 s0_1 s0_2) (hB : Below w0.heap.size w0 w) (hr1 : Kd.C (Kd.int .i64) w A1 l1.length l1) (hc1 : l1.length ≤ c1) (hf1 : ∀ ad, A1 = some ad → 0 < l1.length → ad.block ≠ g) (h : spec_l1Int.f s0_0 s0_1 s0_2 l1 = some (r1, r2, r3)) :
  Calls Try.prog 151 #[.pointer (some ⟨g, 0, none⟩), .slice A1 l1.length c1] w fun e w' => e = .returned (.int .i64 r1) ∧ IsS159 w0 w' g s0_0 r2 r3 ∧ Below w0.heap.size w0 w' ∧ KeepBut w w' g none := by
 have HR1 := Aside0.mk hr1
 have HC1 := Aside0.mk hc1
 clear hr1 hc1
 have HI0 := Aside0.mk hI
 have HK := Aside0.mk (KeepBut.refl w g none)
 have HL := Aside0.mk hB.size
 clear hI
 have HW0 := Aside0.mk hB.size
 have HB := Aside0.mk hB
 clear hB
 have H : ((spec_l1Below.f s0_0 s0_1 s0_2 (l1.length : Int)).bind fun bt241 => (if 0 ≤ bt241.1 then (if bt241.1 < (l1.length : Int) then (some (rd l1 bt241.1, bt241.2.1, bt241.2.2)) else (none)) else (none))) = some (r1, r2, r3) := h
 clear h
 replace H := Option.bind_eq_some_iff.mp H
 obtain ⟨⟨t241, t242, t243⟩, A30, H⟩ := H
 replace H : (if 0 ≤ t241 then (if t241 < (l1.length : Int) then (some (rd l1 t241, t242, t243)) else (none)) else (none)) = some (r1, r2, r3) := H
 have A3 := Aside0.mk A30
 clear A30
 by_cases c4 : 0 ≤ t241
 ·rw [if_pos c4] at H
  have c4b0 : decide (0 ≤ t241) = true := decide_eq_true c4
  clear c4
  by_cases c5 : t241 < (l1.length : Int)
  ·rw [if_pos c5] at H
   have c5b0 : decide (t241 < (l1.length : Int)) = true := decide_eq_true c5
   clear c5
   simp only [Option.some.injEq, Prod.mk.injEq] at H
   obtain ⟨rfl, rfl, rfl⟩ := H
   go_enter Try.func151, Try.ntmps151
   go_wp2_with (first | ((with_reducible refine gate_callee (f := 104) rfl ?_); refine goesL_ (some 9) rfl rfl Try.func104 (by kernel_rfl) rfl #[.pointer (some ⟨g, 0, none⟩), .int .i64 (l1.length : Int)] rfl al_ ?_; (with_reducible refine (spec_l1Below.calls g s0_0 s0_1 s0_2 (l1.length : Int) t241 t242 t243 w0 _ ?side1 ?side2 A3.out).mono ?_); (case side1 => repeat (first | (with_reducible first | exact HI0.out | apply IsS159.alloc | apply IsS159.drewN | apply IsS159.drew | apply IsS159.set_1 | apply IsS159.set_2) | exact HI0.out)); (case side2 => repeat (first | (with_reducible first | exact HB.out | apply below_alloc | apply pw_below_drewN | apply below_drew1 | refine below_set ?_ (IsS159.ge HI0.out)) | exact HB.out)); rintro e w6 ⟨rfl, hi, hb, hk⟩; refine ⟨_, rfl, ?_⟩; have n0_ := Aside0.mk (KeepBut.trans (by repeat (first | (with_reducible first | exact HK.out | apply KeepBut.set_ | apply keep_drewN | apply keep_drew | apply keep_alloc) | exact HK.out)) hk (.inl rfl)); have n1_ := Aside0.mk (hb); have n2_ := Aside0.mk (hi); clear HK; clear HB; clear HI0; have HK := n0_; have HB := n1_; have HI0 := n2_; clear n0_ n1_ n2_; (try clear hb); (try clear hb2); (try clear hk); (try clear hi); have p244 : 0 ≤ (t241 : Int) := of_decide_eq_true pa_; have q244 : t241 < (l1.length : Int) := of_decide_eq_true pa_; obtain ⟨ad244, e244, hx244_0⟩ := Kd.at_int HR1.out t241 p244 q244; cases e244; replace hx244_0 := keep_cell HK.out hx244_0 (by first | (rw [add_block]; exact hf1 _ rfl (by omega)) | exact hf1 _ rfl (by omega) | exact hf1 ad244 rfl (by omega)); replace p244 := eq_true p244; replace q244 := eq_true q244))
   go_ret
   exact ⟨pe_, by repeat (first | (with_reducible first | exact HI0.out | apply IsS159.alloc | apply IsS159.drewN | apply IsS159.drew | apply IsS159.set_1 | apply IsS159.set_2) | exact HI0.out), by repeat (first | (with_reducible first | exact HB.out | apply below_alloc | apply pw_below_drewN | apply below_drew1 | refine below_set ?_ (IsS159.ge HI0.out)) | exact HB.out), by repeat (first | (with_reducible first | exact HK.out | apply KeepBut.set_ | apply keep_drewN | apply keep_drew | apply keep_alloc) | exact HK.out)⟩
  ·rw [if_neg c5] at H
   exact absurd H (by simp)
 ·rw [if_neg c4] at H
  exact absurd H (by simp)

/-! ### spec_l1Once: function 106 -/
def spec_l1Once.f (s0_0 : List Int) (s0_1 : Int) (s0_2 : Int) (a1 : Int) : Option (Bool × Int × Int) := (spec_l1Below.f s0_0 s0_1 s0_2 a1).bind fun bt245 => (some ((bt245.1 == 0), bt245.2.1, bt245.2.2))
set_option maxHeartbeats 8000000 in
set_option maxRecDepth 100000 in
theorem spec_l1Once.calls (g : Nat) (s0_0 : List Int) (s0_1 : Int) (s0_2 : Int) (a1 : Int) (r1 : Bool) (r2 : Int) (r3 : Int) (w0 w : World) (hI : IsS159 w0 w g s0_0 s0_1 s0_2) (hB : Below w0.heap.size w0 w) (h : spec_l1Once.f s0_0 s0_1 s0_2 a1 = some (r1, r2, r3)) :
  Calls Try.prog 106 #[.pointer (some ⟨g, 0, none⟩), .int .i64 a1] w fun e w' => e = .returned (.bool r1) ∧ IsS159 w0 w' g s0_0 r2 r3 ∧ Below w0.heap.size w0 w' ∧ KeepBut w w' g none := by
 have HI0 := Aside0.mk hI
 have HK := Aside0.mk (KeepBut.refl w g none)
 have HL := Aside0.mk hB.size
 clear hI
 have HW0 := Aside0.mk hB.size
 have HB := Aside0.mk hB
 clear hB
 have H : ((spec_l1Below.f s0_0 s0_1 s0_2 a1).bind fun bt245 => (some ((bt245.1 == 0), bt245.2.1, bt245.2.2))) = some (r1, r2, r3) := h
 clear h
 replace H := Option.bind_eq_some_iff.mp H
 obtain ⟨⟨t245, t246, t247⟩, A30, H⟩ := H
 replace H : (some ((t245 == 0), t246, t247)) = some (r1, r2, r3) := H
 have A3 := Aside0.mk A30
 clear A30
 simp only [Option.some.injEq, Prod.mk.injEq] at H
 obtain ⟨rfl, rfl, rfl⟩ := H
 go_enter Try.func106, Try.ntmps106
 go_wp2_with (first | ((with_reducible refine gate_callee (f := 104) rfl ?_); refine goesL_ (some 7) rfl rfl Try.func104 (by kernel_rfl) rfl #[.pointer (some ⟨g, 0, none⟩), .int .i64 a1] rfl al_ ?_; (with_reducible refine (spec_l1Below.calls g s0_0 s0_1 s0_2 a1 t245 t246 t247 w0 _ ?side1 ?side2 A3.out).mono ?_); (case side1 => repeat (first | (with_reducible first | exact HI0.out | apply IsS159.alloc | apply IsS159.drewN | apply IsS159.drew | apply IsS159.set_1 | apply IsS159.set_2) | exact HI0.out)); (case side2 => repeat (first | (with_reducible first | exact HB.out | apply below_alloc | apply pw_below_drewN | apply below_drew1 | refine below_set ?_ (IsS159.ge HI0.out)) | exact HB.out)); rintro e w4 ⟨rfl, hi, hb, hk⟩; refine ⟨_, rfl, ?_⟩; have n0_ := Aside0.mk (KeepBut.trans (by repeat (first | (with_reducible first | exact HK.out | apply KeepBut.set_ | apply keep_drewN | apply keep_drew | apply keep_alloc) | exact HK.out)) hk (.inl rfl)); have n1_ := Aside0.mk (hb); have n2_ := Aside0.mk (hi); clear HK; clear HB; clear HI0; have HK := n0_; have HB := n1_; have HI0 := n2_; clear n0_ n1_ n2_; (try clear hb); (try clear hb2); (try clear hk); (try clear hi)))
 go_ret
 exact ⟨pe_, by repeat (first | (with_reducible first | exact HI0.out | apply IsS159.alloc | apply IsS159.drewN | apply IsS159.drew | apply IsS159.set_1 | apply IsS159.set_2) | exact HI0.out), by repeat (first | (with_reducible first | exact HB.out | apply below_alloc | apply pw_below_drewN | apply below_drew1 | refine below_set ?_ (IsS159.ge HI0.out)) | exact HB.out), by repeat (first | (with_reducible first | exact HK.out | apply KeepBut.set_ | apply keep_drewN | apply keep_drew | apply keep_alloc) | exact HK.out)⟩

end Go.Proofs.Ythakdhdoeejkmaa.QFnFirstAddr
