-- Written by a program of this session (wip/myprint.py); Lean checks it.
import Derived.Test.YthakdhdoeejkmaaQFnFirstAddrx0
import Derived.Test.YthakdhdoeejkmaaQFnFirstAddrx1
import Derived.Test.YthakdhdoeejkmaaQFnFirstAddrx6
import Derived.Test.YthakdhdoeejkmaaQFnFirstAddrx10
import Derived.Test.YthakdhdoeejkmaaQFnFirstAddrx11
import Derived.Test.YthakdhdoeejkmaaQFnFirstAddrx13
import Derived.Test.YthakdhdoeejkmaaQFnFirstAddrx14
namespace Go.Proofs.Ythakdhdoeejkmaa.QFnFirstAddr
open Go.RowKit Go.Proofs.YthakdhdoeejkmaaW.PrintWords Go.Proofs.YthakdhdoeejkmaaW.PrintLast Go.Proofs.YthakdhdoeejkmaaW.PrintMore
attribute [local go_sem] max2_int min2_int max_two min_two max_three min_three max_four min_four   -- for this text's walks alone
set_option linter.unusedVariables false
set_option linter.unusedSimpArgs false

attribute [local go_sem high] eqA29
attribute [local go_sem] isSome_setCell
/-! ### laws_FnFirstAddr: function 8 -/
mutual
def laws_FnFirstAddr.j0 : Nat → List (S29) → Bool → Bool → Bool → Bool → Int → Int → Int → Bool → Int → Int → Option (Bool)
 | 0, _, _, _, _, _, _, _, _, _, _, _ => none
 | k + 1, x4, x6, x8, x41, x427000, x427001, x427002, x427003, x432000, x432001, x432002 => if x41 = true then (some (x6 == x8)) else ((impl_PlaceOf.f k x427000 x427001 x427002 x427003 x432000 x432001 x432002).bind fun bt437 => (if bt437.2 = true then (laws_FnFirstAddr.l0 k x4 bt437.1 0 x427000 x427001 x427002 x427003) else (some false)))
def laws_FnFirstAddr.l0 : Nat → List (S29) → Int → Int → Bool → Int → Int → Int → Option (Bool)
 | 0, _, _, _, _, _, _, _ => none
 | k + 1, x4, x9, x11, x427000, x427001, x427002, x427003 => if x11 ≤ x9 then ((impl_NthOf.f x427000 x427001 x427002 x427003 x11).bind fun bt439 => (laws_FnFirstAddr.l1 k x4 x9 x11 false 0 x427000 x427001 x427002 x427003 bt439.1 bt439.2.1 bt439.2.2.1)) else (some true)
def laws_FnFirstAddr.l1 : Nat → List (S29) → Int → Int → Bool → Int → Bool → Int → Int → Int → Bool → Int → Int → Option (Bool)
 | 0, _, _, _, _, _, _, _, _, _, _, _, _ => none
 | k + 1, x4, x9, x11, x14, x15, x427000, x427001, x427002, x427003, x444000, x444001, x444002 => if x15 < (x4.length : Int) then (if x14 = true then (laws_FnFirstAddr.l1 k x4 x9 x11 true (wrap64 (x15 + 1)) x427000 x427001 x427002 x427003 x444000 x444001 x444002) else (if 0 ≤ x15 then (laws_FnFirstAddr.l1 k x4 x9 x11 (((rd_T29 x4 x15).f0) == x444000 && (((rd_T29 x4 x15).f1) == x444001 && (((rd_T29 x4 x15).f2) == x444002))) (wrap64 (x15 + 1)) x427000 x427001 x427002 x427003 x444000 x444001 x444002) else (none))) else (if (x14 != (decide (x11 < x9))) = true then (some false) else (laws_FnFirstAddr.l0 k x4 x9 (wrap64 (x11 + 1)) x427000 x427001 x427002 x427003))
end
def laws_FnFirstAddr.f (k : Nat) (l0 : List Int) : Option (Bool) := (laws_big.f l0).bind fun t418 => (if t418 = true then (some true) else ((spec_DrawFirstAddr.f k l0).bind fun bt419 => ((impl_FirstAddr.f k bt419.1 bt419.2.1 bt419.2.2.1 bt419.2.2.2.1 bt419.2.2.2.2).bind fun bt427 => ((spec_FirstAddr.f k bt419.1 bt419.2.1 bt419.2.2.1 bt419.2.2.2.1 bt419.2.2.2.2).bind fun bt432 => (if (bt427.2.2.2 != bt432.2.2.2) = true then (laws_FnFirstAddr.j0 k bt419.2.2.2.2 bt427.2.2.2 bt432.2.2.2 true bt419.1 bt419.2.1 bt419.2.2.1 bt419.2.2.2.1 bt427.1 bt427.2.1 bt427.2.2.1) else (laws_FnFirstAddr.j0 k bt419.2.2.2.2 bt427.2.2.2 bt432.2.2.2 (!bt427.2.2.2) bt419.1 bt419.2.1 bt419.2.2.1 bt419.2.2.2.1 bt427.1 bt427.2.1 bt427.2.2.1))))))
theorem laws_FnFirstAddr.mono_l : ∀ k, (∀ y0 y1 y2 y3 y4 y5 y6 y7 y8 y9 y10, LeO (laws_FnFirstAddr.j0 k y0 y1 y2 y3 y4 y5 y6 y7 y8 y9 y10) (laws_FnFirstAddr.j0 (k + 1) y0 y1 y2 y3 y4 y5 y6 y7 y8 y9 y10)) ∧ (∀ y0 y1 y2 y3 y4 y5 y6, LeO (laws_FnFirstAddr.l0 k y0 y1 y2 y3 y4 y5 y6) (laws_FnFirstAddr.l0 (k + 1) y0 y1 y2 y3 y4 y5 y6)) ∧ (∀ y0 y1 y2 y3 y4 y5 y6 y7 y8 y9 y10 y11, LeO (laws_FnFirstAddr.l1 k y0 y1 y2 y3 y4 y5 y6 y7 y8 y9 y10 y11) (laws_FnFirstAddr.l1 (k + 1) y0 y1 y2 y3 y4 y5 y6 y7 y8 y9 y10 y11))
 | 0 => ⟨fun _ _ _ _ _ _ _ _ _ _ _ r h => by simp [laws_FnFirstAddr.j0] at h, fun _ _ _ _ _ _ _ r h => by simp [laws_FnFirstAddr.l0] at h, fun _ _ _ _ _ _ _ _ _ _ _ _ r h => by simp [laws_FnFirstAddr.l1] at h⟩
 | k + 1 => by
  obtain ⟨ih0, ih1, ih2⟩ := laws_FnFirstAddr.mono_l k
  refine ⟨?_, ?_, ?_⟩
  ·intro y0 y1 y2 y3 y4 y5 y6 y7 y8 y9 y10
   unfold laws_FnFirstAddr.j0
   repeat' first
   | (with_reducible exact ih0 _ _ _ _ _ _ _ _ _ _ _)
   | (with_reducible exact ih1 _ _ _ _ _ _ _)
   | (with_reducible exact ih2 _ _ _ _ _ _ _ _ _ _ _ _)
   | (with_reducible exact impl_FirstAddr.mono _ _ _ _ _ _)
   | (with_reducible exact impl_PlaceOf.mono _ _ _ _ _ _ _ _)
   | (with_reducible exact spec_DrawFirstAddr.mono _ _)
   | (with_reducible exact spec_FirstAddr.mono _ _ _ _ _ _)
   | (with_reducible exact LeO.refl _)
   | (with_reducible exact LeO.none _)
   | (with_reducible refine LeO.ite ?_ ?_)
   | (with_reducible refine LeO.bind ?_ (fun _ => ?_))
   | exact ih0 _ _ _ _ _ _ _ _ _ _ _
   | exact ih1 _ _ _ _ _ _ _
   | exact ih2 _ _ _ _ _ _ _ _ _ _ _ _
   | exact impl_FirstAddr.mono _ _ _ _ _ _
   | exact impl_PlaceOf.mono _ _ _ _ _ _ _ _
   | exact spec_DrawFirstAddr.mono _ _
   | exact spec_FirstAddr.mono _ _ _ _ _ _
   | exact LeO.none _
   | refine LeO.ite ?_ ?_
   | refine LeO.bind ?_ (fun _ => ?_)
  ·intro y0 y1 y2 y3 y4 y5 y6
   unfold laws_FnFirstAddr.l0
   repeat' first
   | (with_reducible exact ih0 _ _ _ _ _ _ _ _ _ _ _)
   | (with_reducible exact ih1 _ _ _ _ _ _ _)
   | (with_reducible exact ih2 _ _ _ _ _ _ _ _ _ _ _ _)
   | (with_reducible exact impl_FirstAddr.mono _ _ _ _ _ _)
   | (with_reducible exact impl_PlaceOf.mono _ _ _ _ _ _ _ _)
   | (with_reducible exact spec_DrawFirstAddr.mono _ _)
   | (with_reducible exact spec_FirstAddr.mono _ _ _ _ _ _)
   | (with_reducible exact LeO.refl _)
   | (with_reducible exact LeO.none _)
   | (with_reducible refine LeO.ite ?_ ?_)
   | (with_reducible refine LeO.bind ?_ (fun _ => ?_))
   | exact ih0 _ _ _ _ _ _ _ _ _ _ _
   | exact ih1 _ _ _ _ _ _ _
   | exact ih2 _ _ _ _ _ _ _ _ _ _ _ _
   | exact impl_FirstAddr.mono _ _ _ _ _ _
   | exact impl_PlaceOf.mono _ _ _ _ _ _ _ _
   | exact spec_DrawFirstAddr.mono _ _
   | exact spec_FirstAddr.mono _ _ _ _ _ _
   | exact LeO.none _
   | refine LeO.ite ?_ ?_
   | refine LeO.bind ?_ (fun _ => ?_)
  ·intro y0 y1 y2 y3 y4 y5 y6 y7 y8 y9 y10 y11
   unfold laws_FnFirstAddr.l1
   repeat' first
   | (with_reducible exact ih0 _ _ _ _ _ _ _ _ _ _ _)
   | (with_reducible exact ih1 _ _ _ _ _ _ _)
   | (with_reducible exact ih2 _ _ _ _ _ _ _ _ _ _ _ _)
   | (with_reducible exact impl_FirstAddr.mono _ _ _ _ _ _)
   | (with_reducible exact impl_PlaceOf.mono _ _ _ _ _ _ _ _)
   | (with_reducible exact spec_DrawFirstAddr.mono _ _)
   | (with_reducible exact spec_FirstAddr.mono _ _ _ _ _ _)
   | (with_reducible exact LeO.refl _)
   | (with_reducible exact LeO.none _)
   | (with_reducible refine LeO.ite ?_ ?_)
   | (with_reducible refine LeO.bind ?_ (fun _ => ?_))
   | exact ih0 _ _ _ _ _ _ _ _ _ _ _
   | exact ih1 _ _ _ _ _ _ _
   | exact ih2 _ _ _ _ _ _ _ _ _ _ _ _
   | exact impl_FirstAddr.mono _ _ _ _ _ _
   | exact impl_PlaceOf.mono _ _ _ _ _ _ _ _
   | exact spec_DrawFirstAddr.mono _ _
   | exact spec_FirstAddr.mono _ _ _ _ _ _
   | exact LeO.none _
   | refine LeO.ite ?_ ?_
   | refine LeO.bind ?_ (fun _ => ?_)
theorem laws_FnFirstAddr.mono : ∀ a0 k, LeO (laws_FnFirstAddr.f k a0) (laws_FnFirstAddr.f (k + 1) a0) := by
 intro a0 k
 obtain ⟨ih0, ih1, ih2⟩ := laws_FnFirstAddr.mono_l k
 unfold laws_FnFirstAddr.f
 repeat' first
   | (with_reducible exact ih0 _ _ _ _ _ _ _ _ _ _ _)
   | (with_reducible exact ih1 _ _ _ _ _ _ _)
   | (with_reducible exact ih2 _ _ _ _ _ _ _ _ _ _ _ _)
   | (with_reducible exact impl_FirstAddr.mono _ _ _ _ _ _)
   | (with_reducible exact impl_PlaceOf.mono _ _ _ _ _ _ _ _)
   | (with_reducible exact spec_DrawFirstAddr.mono _ _)
   | (with_reducible exact spec_FirstAddr.mono _ _ _ _ _ _)
   | (with_reducible exact LeO.refl _)
   | (with_reducible exact LeO.none _)
   | (with_reducible refine LeO.ite ?_ ?_)
   | (with_reducible refine LeO.bind ?_ (fun _ => ?_))
   | exact ih0 _ _ _ _ _ _ _ _ _ _ _
   | exact ih1 _ _ _ _ _ _ _
   | exact ih2 _ _ _ _ _ _ _ _ _ _ _ _
   | exact impl_FirstAddr.mono _ _ _ _ _ _
   | exact impl_PlaceOf.mono _ _ _ _ _ _ _ _
   | exact spec_DrawFirstAddr.mono _ _
   | exact spec_FirstAddr.mono _ _ _ _ _ _
   | exact LeO.none _
   | refine LeO.ite ?_ ?_
   | refine LeO.bind ?_ (fun _ => ?_)
set_option maxHeartbeats 8000000 in
set_option maxRecDepth 100000 in
theorem laws_FnFirstAddr.calls (k : Nat) (A0 : Option Addr) (c0 : Nat) (l0 : List Int) (r : Bool) (w : World) (hr0 : Kd.C (Kd.int .u8) w A0 l0.length l0) (hc0 : l0.length ≤ c0) (h : laws_FnFirstAddr.f k l0 = some r) (hlaw_ : r = true := by rfl) :
  Calls Try.prog 8 #[.slice A0 l0.length c0] w fun e w' => e = .returned (.bool r) ∧ Below w.heap.size w w' := by
 have HLAW := Aside0.mk hlaw_
 clear hlaw_
 have hu31 := Try.underlying31
 have hu29 := Try.underlying29
 have HR0 := Aside0.mk hr0
 have HC0 := Aside0.mk hc0
 clear hr0 hc0
 have HB := Aside0.mk (Below.refl w.heap.size w)
 have H : ((laws_big.f l0).bind fun t418 => (if t418 = true then (some true) else ((spec_DrawFirstAddr.f k l0).bind fun bt419 => ((impl_FirstAddr.f k bt419.1 bt419.2.1 bt419.2.2.1 bt419.2.2.2.1 bt419.2.2.2.2).bind fun bt427 => ((spec_FirstAddr.f k bt419.1 bt419.2.1 bt419.2.2.1 bt419.2.2.2.1 bt419.2.2.2.2).bind fun bt432 => (if (bt427.2.2.2 != bt432.2.2.2) = true then (laws_FnFirstAddr.j0 k bt419.2.2.2.2 bt427.2.2.2 bt432.2.2.2 true bt419.1 bt419.2.1 bt419.2.2.1 bt419.2.2.2.1 bt427.1 bt427.2.1 bt427.2.2.1) else (laws_FnFirstAddr.j0 k bt419.2.2.2.2 bt427.2.2.2 bt432.2.2.2 (!bt427.2.2.2) bt419.1 bt419.2.1 bt419.2.2.1 bt419.2.2.2.1 bt427.1 bt427.2.1 bt427.2.2.1))))))) = some r := h
 clear h
 replace H := Option.bind_eq_some_iff.mp H
 obtain ⟨t418, A20, H⟩ := H
 replace H : (if t418 = true then (some true) else ((spec_DrawFirstAddr.f k l0).bind fun bt419 => ((impl_FirstAddr.f k bt419.1 bt419.2.1 bt419.2.2.1 bt419.2.2.2.1 bt419.2.2.2.2).bind fun bt427 => ((spec_FirstAddr.f k bt419.1 bt419.2.1 bt419.2.2.1 bt419.2.2.2.1 bt419.2.2.2.2).bind fun bt432 => (if (bt427.2.2.2 != bt432.2.2.2) = true then (laws_FnFirstAddr.j0 k bt419.2.2.2.2 bt427.2.2.2 bt432.2.2.2 true bt419.1 bt419.2.1 bt419.2.2.1 bt419.2.2.2.1 bt427.1 bt427.2.1 bt427.2.2.1) else (laws_FnFirstAddr.j0 k bt419.2.2.2.2 bt427.2.2.2 bt432.2.2.2 (!bt427.2.2.2) bt419.1 bt419.2.1 bt419.2.2.1 bt419.2.2.2.1 bt427.1 bt427.2.1 bt427.2.2.1)))))) = some r := H
 have A2 := Aside0.mk A20
 clear A20
 by_cases c3 : t418 = true
 ·subst c3
  have H1 : (some true) = some r := by rw [if_pos rfl] at H; exact H
  clear H
  have H := H1
  clear H1
  obtain rfl := Option.some.inj H
  go_enter Try.func8, Try.ntmps8
  go_wp2_with (first | (go_at_call 33; (with_reducible refine (laws_big.calls _ _ l0 true _ ?side1 ?side2 A2.out).mono ?_); (case side1 => repeat (first | exact HR0.out | (with_reducible refine Kd.C_alloc ?_ _) | (with_reducible refine Kd.C_drewN ?_ _) | (with_reducible refine Kd.C_drew ?_))); (case side2 => exact HC0.out); rintro e w' ⟨rfl, ⟨nd, rfl⟩⟩; (try first | exact ⟨rfl, _, World.drewN_drewN _ _ _⟩ | exact ⟨rfl, _, Eq.trans (World.drewN_drewN _ _ _) (congrArg (World.drewN _) (Nat.add_assoc _ _ _))⟩)))
  repeat (go_quiet (first | (go_at_call 33; (with_reducible refine (laws_big.calls _ _ l0 true _ ?side1 ?side2 A2.out).mono ?_); (case side1 => repeat (first | exact HR0.out | (with_reducible refine Kd.C_alloc ?_ _) | (with_reducible refine Kd.C_drewN ?_ _) | (with_reducible refine Kd.C_drew ?_))); (case side2 => exact HC0.out); rintro e w' ⟨rfl, ⟨nd, rfl⟩⟩; (try first | exact ⟨rfl, _, World.drewN_drewN _ _ _⟩ | exact ⟨rfl, _, Eq.trans (World.drewN_drewN _ _ _) (congrArg (World.drewN _) (Nat.add_assoc _ _ _))⟩))); try go_wp2_with (first | (go_at_call 33; (with_reducible refine (laws_big.calls _ _ l0 true _ ?side1 ?side2 A2.out).mono ?_); (case side1 => repeat (first | exact HR0.out | (with_reducible refine Kd.C_alloc ?_ _) | (with_reducible refine Kd.C_drewN ?_ _) | (with_reducible refine Kd.C_drew ?_))); (case side2 => exact HC0.out); rintro e w' ⟨rfl, ⟨nd, rfl⟩⟩; (try first | exact ⟨rfl, _, World.drewN_drewN _ _ _⟩ | exact ⟨rfl, _, Eq.trans (World.drewN_drewN _ _ _) (congrArg (World.drewN _) (Nat.add_assoc _ _ _))⟩))))
  go_ret
  exact ⟨pe_, hb_ HB.out⟩
 ·replace c3 := Bool.eq_false_iff.mpr c3
  subst c3
  have H1 : ((spec_DrawFirstAddr.f k l0).bind fun bt419 => ((impl_FirstAddr.f k bt419.1 bt419.2.1 bt419.2.2.1 bt419.2.2.2.1 bt419.2.2.2.2).bind fun bt427 => ((spec_FirstAddr.f k bt419.1 bt419.2.1 bt419.2.2.1 bt419.2.2.2.1 bt419.2.2.2.2).bind fun bt432 => (if (bt427.2.2.2 != bt432.2.2.2) = true then (laws_FnFirstAddr.j0 k bt419.2.2.2.2 bt427.2.2.2 bt432.2.2.2 true bt419.1 bt419.2.1 bt419.2.2.1 bt419.2.2.2.1 bt427.1 bt427.2.1 bt427.2.2.1) else (laws_FnFirstAddr.j0 k bt419.2.2.2.2 bt427.2.2.2 bt432.2.2.2 (!bt427.2.2.2) bt419.1 bt419.2.1 bt419.2.2.1 bt419.2.2.2.1 bt427.1 bt427.2.1 bt427.2.2.1))))) = some r := by rw [if_neg (show ¬ (false = true) by decide)] at H; exact H
  clear H
  have H := H1
  clear H1
  replace H := Option.bind_eq_some_iff.mp H
  obtain ⟨⟨t419, t420, t421, t422, t423⟩, A40, H⟩ := H
  replace H : ((impl_FirstAddr.f k t419 t420 t421 t422 t423).bind fun bt427 => ((spec_FirstAddr.f k t419 t420 t421 t422 t423).bind fun bt432 => (if (bt427.2.2.2 != bt432.2.2.2) = true then (laws_FnFirstAddr.j0 k t423 bt427.2.2.2 bt432.2.2.2 true t419 t420 t421 t422 bt427.1 bt427.2.1 bt427.2.2.1) else (laws_FnFirstAddr.j0 k t423 bt427.2.2.2 bt432.2.2.2 (!bt427.2.2.2) t419 t420 t421 t422 bt427.1 bt427.2.1 bt427.2.2.1)))) = some r := H
  have A4 := Aside0.mk A40
  clear A40
  replace H := Option.bind_eq_some_iff.mp H
  obtain ⟨⟨t427, t428, t429, t430⟩, A50, H⟩ := H
  replace H : ((spec_FirstAddr.f k t419 t420 t421 t422 t423).bind fun bt432 => (if (t430 != bt432.2.2.2) = true then (laws_FnFirstAddr.j0 k t423 t430 bt432.2.2.2 true t419 t420 t421 t422 t427 t428 t429) else (laws_FnFirstAddr.j0 k t423 t430 bt432.2.2.2 (!t430) t419 t420 t421 t422 t427 t428 t429))) = some r := H
  have A5 := Aside0.mk A50
  clear A50
  replace H := Option.bind_eq_some_iff.mp H
  obtain ⟨⟨t432, t433, t434, t435⟩, A60, H⟩ := H
  replace H : (if (t430 != t435) = true then (laws_FnFirstAddr.j0 k t423 t430 t435 true t419 t420 t421 t422 t427 t428 t429) else (laws_FnFirstAddr.j0 k t423 t430 t435 (!t430) t419 t420 t421 t422 t427 t428 t429)) = some r := H
  have A6 := Aside0.mk A60
  clear A60
  have HC7 := Aside0.mk H
  clear H
  go_enter Try.func8, Try.ntmps8
  go_upto_region 6 with (first | (go_at_call 33; (with_reducible refine (laws_big.calls _ _ l0 false _ ?side1 ?side2 A2.out).mono ?_); (case side1 => repeat (first | exact HR0.out | (with_reducible refine Kd.C_alloc ?_ _) | (with_reducible refine Kd.C_drewN ?_ _) | (with_reducible refine Kd.C_drew ?_))); (case side2 => exact HC0.out); rintro e w' ⟨rfl, ⟨nd, rfl⟩⟩; (try first | exact ⟨rfl, _, World.drewN_drewN _ _ _⟩ | exact ⟨rfl, _, Eq.trans (World.drewN_drewN _ _ _) (congrArg (World.drewN _) (Nat.add_assoc _ _ _))⟩)) | (go_at_call 47; (with_reducible refine (spec_DrawFirstAddr.calls k _ _ l0 t419 t420 t421 t422 t423 _ ?side1 ?side2 A4.out).mono ?_); (case side1 => repeat (first | exact HR0.out | (with_reducible refine Kd.C_alloc ?_ _) | (with_reducible refine Kd.C_drewN ?_ _) | (with_reducible refine Kd.C_drew ?_))); (case side2 => exact HC0.out); rintro e w8 ⟨v424, rfl, ho0, hb⟩; have n0_ := Aside0.mk (Kd.R_lower ho0 (below_size (hb_ HB.out))); have n1_ := Aside0.mk (below_step (hb_ HB.out) hb); clear HB; have HO425 := n0_; have HB := n1_; clear n0_ n1_; (try clear hb); (try clear hb2); (try clear hk); (try clear hi); (try clear ho0)) | ((with_reducible refine gate_dst (N := 3) rfl ?_); refine box_event ?hg (N := 3) ?hd (cs := #[.bool false, .int .i64 0, .int .i64 0, .int .i64 0]) (t := 31) ?hr ?_; (case hd => rfl); (case hg => rfl); (case hr => first | (go_simp; done) | (go_simp; rfl)); intro gb426 hg w9 hbox hb; have n0_ := Aside0.mk (Kd.R_below (by (with_reducible repeat (first | apply Kd.R_alloc | apply Kd.R_drewN | apply Kd.R_drew)); exact HO425.out) hb); have n1_ := Aside0.mk (below_step (hb_ HB.out) hb); have n2_ := Aside0.mk (hbox); have n3_ := bg_ hg (below_size (hb_ HB.out)); have n4_ := bg_ hg (below_size (hb_ HB.out)); clear HO425; clear HB; have HO425 := n0_; have HB := n1_; have BK426 := n2_; have GW426 := n3_; have GE426 := n4_; clear n0_ n1_ n2_ n3_ n4_; clear hb hbox hg; obtain ⟨hcz10_0, hcz10_1, hcz10_2, hcz10_3, hfz10_0, hfz10_1, hfz10_2, hfz10_3⟩ := bc4_ BK426.out; obtain ⟨Ao11, co11, eo11⟩ := Kd.R_slice HO425.out; subst eo11) | (go_at_call 30; (with_reducible refine (impl_FirstAddr.calls k t419 t420 t421 t422 _ _ t423 t427 t428 t429 t430 _ ?side1 ?side2 A5.out).mono ?_); (case side1 => refine (Kd.R_reads' (e := 29) (base := w.heap.size) (ok := fun k_ => True) (n := t423.length) (c := co11) ?_).2.2; exact (by (with_reducible repeat (first | apply Kd.R_alloc | apply Kd.R_drewN | apply Kd.R_drew)); exact (Kd.R_mono (Kd.R_far (p := ⟨gb426, 3, none⟩) (Kd.R_far (p := ⟨gb426, 2, none⟩) (Kd.R_far (p := ⟨gb426, 1, none⟩) (Kd.R_far (p := ⟨gb426, 0, none⟩) (Kd.R_types HO425.out BK426.out (by decide)) (fun _ hk => hk.2) (.bool t419)) (fun _ hk => hk.2) (.int .i64 t420)) (fun _ hk => hk.2) (.int .i64 t421)) (fun _ hk => hk.2) (.int .i64 t422)) (fun _ h_ => h_.1)))); (case side2 => exact (Kd.R_reads' HO425.out).2.1); rintro e w12 ⟨rfl, hb⟩; have n0_ := Aside0.mk (Kd.R_below (by (with_reducible repeat (first | apply Kd.R_alloc | apply Kd.R_drewN | apply Kd.R_drew)); exact (Kd.R_mono (Kd.R_far (p := ⟨gb426, 3, none⟩) (Kd.R_far (p := ⟨gb426, 2, none⟩) (Kd.R_far (p := ⟨gb426, 1, none⟩) (Kd.R_far (p := ⟨gb426, 0, none⟩) (Kd.R_types HO425.out BK426.out (by decide)) (fun _ hk => hk.2) (.bool t419)) (fun _ hk => hk.2) (.int .i64 t420)) (fun _ hk => hk.2) (.int .i64 t421)) (fun _ hk => hk.2) (.int .i64 t422)) (fun _ h_ => h_.1))) hb); have n1_ := Aside0.mk (blk_below (g := gb426) (o := .cells #[.bool t419, .int .i64 t420, .int .i64 t421, .int .i64 t422] 31 (0, 0)) (by refine bk_ ?_; refine blk_put (cs := #[.bool t419, .int .i64 t420, .int .i64 t421, .int .i64 0]) ?_ 3 _ rfl; refine bk_ ?_; refine blk_put (cs := #[.bool t419, .int .i64 t420, .int .i64 0, .int .i64 0]) ?_ 2 _ rfl; refine bk_ ?_; refine blk_put (cs := #[.bool t419, .int .i64 0, .int .i64 0, .int .i64 0]) ?_ 1 _ rfl; refine bk_ ?_; refine blk_put (cs := #[.bool false, .int .i64 0, .int .i64 0, .int .i64 0]) ?_ 0 _ rfl; refine bk_ ?_; exact BK426.out) hb); have n2_ := Aside0.mk (below_step (hc_ HB.out GE426.out) hb); clear HO425; clear BK426; clear HB; have HO425 := n0_; have BK426 := n1_; have HB := n2_; clear n0_ n1_ n2_; (try clear hb); (try clear hb2); (try clear hk); (try clear hi)) | ((with_reducible refine gate_dst (N := 5) rfl ?_); refine box_event ?hg (N := 5) ?hd (cs := #[.bool false, .int .i64 0, .int .i64 0]) (t := 29) ?hr ?_; (case hd => rfl); (case hg => rfl); (case hr => first | (go_simp; done) | (go_simp; rfl)); intro gb431 hg w13 hbox hb; have n0_ := Aside0.mk (Kd.R_below (Kd.R_elderB (by (with_reducible repeat (first | apply Kd.R_alloc | apply Kd.R_drewN | apply Kd.R_drew)); exact HO425.out) gb431 (Nat.le_of_eq hg.symm)) hb); have n1_ := Aside0.mk (blk_below (bk_ BK426.out) hb); have n2_ := Aside0.mk (below_step (hc_ HB.out GE426.out) hb); have n3_ := Aside0.mk (hbox); have n4_ := bg_ hg (below_size (hc_ HB.out GE426.out)); have n5_ := bg_ hg (below_size (hc_ HB.out GE426.out)); have n6_ := bn_ hg (blk_lt (bk_ BK426.out)); have n7_ := bm_ hg (blk_lt (bk_ BK426.out)); clear HO425; clear BK426; clear HB; have HO425 := n0_; have BK426 := n1_; have HB := n2_; have BK431 := n3_; have GW431 := n4_; have GE431 := n5_; have NB426_431 := n6_; have NB431_426 := n7_; clear n0_ n1_ n2_ n3_ n4_ n5_ n6_ n7_; clear hb hbox hg; have hnb14 := NB431_426.out; have hnc14 := NB426_431.out; obtain ⟨hcz15_0, hcz15_1, hcz15_2, hfz15_0, hfz15_1, hfz15_2⟩ := bc3_ BK431.out; obtain ⟨hcz16_0, hcz16_1, hcz16_2, hcz16_3, hfz16_0, hfz16_1, hfz16_2, hfz16_3⟩ := bc4_ BK426.out) | (go_at_call 28; (with_reducible refine (spec_FirstAddr.calls k t419 t420 t421 t422 _ _ t423 t432 t433 t434 t435 _ ?side1 ?side2 A6.out).mono ?_); (case side1 => refine (Kd.R_reads' (e := 29) (base := w.heap.size) (ok := fun k_ => (True ∧ k_ ≠ gb431)) (n := t423.length) (c := co11) ?_).2.2; exact (by (with_reducible repeat (first | apply Kd.R_alloc | apply Kd.R_drewN | apply Kd.R_drew)); exact (Kd.R_mono (Kd.R_far (p := ⟨gb431, 2, none⟩) (Kd.R_far (p := ⟨gb431, 1, none⟩) (Kd.R_far (p := ⟨gb431, 0, none⟩) (Kd.R_mono HO425.out (fun k_ hk => (⟨hk, hk.2⟩ : _ ∧ k_ ≠ gb431))) (fun _ hk => hk.2) (.bool t427)) (fun _ hk => hk.2) (.int .i64 t428)) (fun _ hk => hk.2) (.int .i64 t429)) (fun _ h_ => h_.1)))); (case side2 => exact (Kd.R_reads' HO425.out).2.1); rintro e w17 ⟨rfl, hb⟩; have n0_ := Aside0.mk (Kd.R_below (by (with_reducible repeat (first | apply Kd.R_alloc | apply Kd.R_drewN | apply Kd.R_drew)); exact (Kd.R_mono (Kd.R_far (p := ⟨gb431, 2, none⟩) (Kd.R_far (p := ⟨gb431, 1, none⟩) (Kd.R_far (p := ⟨gb431, 0, none⟩) (Kd.R_mono HO425.out (fun k_ hk => (⟨hk, hk.2⟩ : _ ∧ k_ ≠ gb431))) (fun _ hk => hk.2) (.bool t427)) (fun _ hk => hk.2) (.int .i64 t428)) (fun _ hk => hk.2) (.int .i64 t429)) (fun _ h_ => h_.1))) hb); have n1_ := Aside0.mk (blk_below (g := gb426) (o := .cells #[.bool t419, .int .i64 t420, .int .i64 t421, .int .i64 t422] 31 (0, 0)) (by refine bk_ ?_; refine blk_far ?_ NB426_431.out _; refine bk_ ?_; refine blk_far ?_ NB426_431.out _; refine bk_ ?_; refine blk_far ?_ NB426_431.out _; refine bk_ ?_; exact BK426.out) hb); have n2_ := Aside0.mk (blk_below (g := gb431) (o := .cells #[.bool t427, .int .i64 t428, .int .i64 t429] 29 (0, 0)) (by refine bk_ ?_; refine blk_put (cs := #[.bool t427, .int .i64 t428, .int .i64 0]) ?_ 2 _ rfl; refine bk_ ?_; refine blk_put (cs := #[.bool t427, .int .i64 0, .int .i64 0]) ?_ 1 _ rfl; refine bk_ ?_; refine blk_put (cs := #[.bool false, .int .i64 0, .int .i64 0]) ?_ 0 _ rfl; refine bk_ ?_; exact BK431.out) hb); have n3_ := Aside0.mk (below_step (hd_ HB.out GE426.out GE431.out) hb); clear HO425; clear BK426; clear BK431; clear HB; have HO425 := n0_; have BK426 := n1_; have BK431 := n2_; have HB := n3_; clear n0_ n1_ n2_ n3_; (try clear hb); (try clear hb2); (try clear hk); (try clear hi)) | ((with_reducible refine gate_dst (N := 7) rfl ?_); refine box_event ?hg (N := 7) ?hd (cs := #[.bool false, .int .i64 0, .int .i64 0]) (t := 29) ?hr ?_; (case hd => rfl); (case hg => rfl); (case hr => first | (go_simp; done) | (go_simp; rfl)); intro gb436 hg w18 hbox hb; have n0_ := Aside0.mk (Kd.R_below (Kd.R_elderB (by (with_reducible repeat (first | apply Kd.R_alloc | apply Kd.R_drewN | apply Kd.R_drew)); exact HO425.out) gb436 (Nat.le_of_eq hg.symm)) hb); have n1_ := Aside0.mk (blk_below (bk_ BK426.out) hb); have n2_ := Aside0.mk (blk_below (bk_ BK431.out) hb); have n3_ := Aside0.mk (below_step (hd_ HB.out GE426.out GE431.out) hb); have n4_ := Aside0.mk (hbox); have n5_ := bg_ hg (below_size (hd_ HB.out GE426.out GE431.out)); have n6_ := bg_ hg (below_size (hd_ HB.out GE426.out GE431.out)); have n7_ := bn_ hg (blk_lt (bk_ BK426.out)); have n8_ := bm_ hg (blk_lt (bk_ BK426.out)); have n9_ := bn_ hg (blk_lt (bk_ BK431.out)); have n10_ := bm_ hg (blk_lt (bk_ BK431.out)); clear HO425; clear BK426; clear BK431; clear HB; have HO425 := n0_; have BK426 := n1_; have BK431 := n2_; have HB := n3_; have BK436 := n4_; have GW436 := n5_; have GE436 := n6_; have NB426_436 := n7_; have NB436_426 := n8_; have NB431_436 := n9_; have NB436_431 := n10_; clear n0_ n1_ n2_ n3_ n4_ n5_ n6_ n7_ n8_ n9_ n10_; clear hb hbox hg; have hnb19 := NB436_426.out; have hnc19 := NB426_436.out; have hnb20 := NB436_431.out; have hnc20 := NB431_436.out; obtain ⟨hcz21_0, hcz21_1, hcz21_2, hfz21_0, hfz21_1, hfz21_2⟩ := bc3_ BK436.out))
  repeat (go_quiet (first | (go_at_call 33; (with_reducible refine (laws_big.calls _ _ l0 false _ ?side1 ?side2 A2.out).mono ?_); (case side1 => repeat (first | exact HR0.out | (with_reducible refine Kd.C_alloc ?_ _) | (with_reducible refine Kd.C_drewN ?_ _) | (with_reducible refine Kd.C_drew ?_))); (case side2 => exact HC0.out); rintro e w' ⟨rfl, ⟨nd, rfl⟩⟩; (try first | exact ⟨rfl, _, World.drewN_drewN _ _ _⟩ | exact ⟨rfl, _, Eq.trans (World.drewN_drewN _ _ _) (congrArg (World.drewN _) (Nat.add_assoc _ _ _))⟩)) | (go_at_call 47; (with_reducible refine (spec_DrawFirstAddr.calls k _ _ l0 t419 t420 t421 t422 t423 _ ?side1 ?side2 A4.out).mono ?_); (case side1 => repeat (first | exact HR0.out | (with_reducible refine Kd.C_alloc ?_ _) | (with_reducible refine Kd.C_drewN ?_ _) | (with_reducible refine Kd.C_drew ?_))); (case side2 => exact HC0.out); rintro e w8 ⟨v424, rfl, ho0, hb⟩; have n0_ := Aside0.mk (Kd.R_lower ho0 (below_size (hb_ HB.out))); have n1_ := Aside0.mk (below_step (hb_ HB.out) hb); clear HB; have HO425 := n0_; have HB := n1_; clear n0_ n1_; (try clear hb); (try clear hb2); (try clear hk); (try clear hi); (try clear ho0)) | ((with_reducible refine gate_dst (N := 3) rfl ?_); refine box_event ?hg (N := 3) ?hd (cs := #[.bool false, .int .i64 0, .int .i64 0, .int .i64 0]) (t := 31) ?hr ?_; (case hd => rfl); (case hg => rfl); (case hr => first | (go_simp; done) | (go_simp; rfl)); intro gb426 hg w9 hbox hb; have n0_ := Aside0.mk (Kd.R_below (by (with_reducible repeat (first | apply Kd.R_alloc | apply Kd.R_drewN | apply Kd.R_drew)); exact HO425.out) hb); have n1_ := Aside0.mk (below_step (hb_ HB.out) hb); have n2_ := Aside0.mk (hbox); have n3_ := bg_ hg (below_size (hb_ HB.out)); have n4_ := bg_ hg (below_size (hb_ HB.out)); clear HO425; clear HB; have HO425 := n0_; have HB := n1_; have BK426 := n2_; have GW426 := n3_; have GE426 := n4_; clear n0_ n1_ n2_ n3_ n4_; clear hb hbox hg; obtain ⟨hcz10_0, hcz10_1, hcz10_2, hcz10_3, hfz10_0, hfz10_1, hfz10_2, hfz10_3⟩ := bc4_ BK426.out; obtain ⟨Ao11, co11, eo11⟩ := Kd.R_slice HO425.out; subst eo11) | (go_at_call 30; (with_reducible refine (impl_FirstAddr.calls k t419 t420 t421 t422 _ _ t423 t427 t428 t429 t430 _ ?side1 ?side2 A5.out).mono ?_); (case side1 => refine (Kd.R_reads' (e := 29) (base := w.heap.size) (ok := fun k_ => True) (n := t423.length) (c := co11) ?_).2.2; exact (by (with_reducible repeat (first | apply Kd.R_alloc | apply Kd.R_drewN | apply Kd.R_drew)); exact (Kd.R_mono (Kd.R_far (p := ⟨gb426, 3, none⟩) (Kd.R_far (p := ⟨gb426, 2, none⟩) (Kd.R_far (p := ⟨gb426, 1, none⟩) (Kd.R_far (p := ⟨gb426, 0, none⟩) (Kd.R_types HO425.out BK426.out (by decide)) (fun _ hk => hk.2) (.bool t419)) (fun _ hk => hk.2) (.int .i64 t420)) (fun _ hk => hk.2) (.int .i64 t421)) (fun _ hk => hk.2) (.int .i64 t422)) (fun _ h_ => h_.1)))); (case side2 => exact (Kd.R_reads' HO425.out).2.1); rintro e w12 ⟨rfl, hb⟩; have n0_ := Aside0.mk (Kd.R_below (by (with_reducible repeat (first | apply Kd.R_alloc | apply Kd.R_drewN | apply Kd.R_drew)); exact (Kd.R_mono (Kd.R_far (p := ⟨gb426, 3, none⟩) (Kd.R_far (p := ⟨gb426, 2, none⟩) (Kd.R_far (p := ⟨gb426, 1, none⟩) (Kd.R_far (p := ⟨gb426, 0, none⟩) (Kd.R_types HO425.out BK426.out (by decide)) (fun _ hk => hk.2) (.bool t419)) (fun _ hk => hk.2) (.int .i64 t420)) (fun _ hk => hk.2) (.int .i64 t421)) (fun _ hk => hk.2) (.int .i64 t422)) (fun _ h_ => h_.1))) hb); have n1_ := Aside0.mk (blk_below (g := gb426) (o := .cells #[.bool t419, .int .i64 t420, .int .i64 t421, .int .i64 t422] 31 (0, 0)) (by refine bk_ ?_; refine blk_put (cs := #[.bool t419, .int .i64 t420, .int .i64 t421, .int .i64 0]) ?_ 3 _ rfl; refine bk_ ?_; refine blk_put (cs := #[.bool t419, .int .i64 t420, .int .i64 0, .int .i64 0]) ?_ 2 _ rfl; refine bk_ ?_; refine blk_put (cs := #[.bool t419, .int .i64 0, .int .i64 0, .int .i64 0]) ?_ 1 _ rfl; refine bk_ ?_; refine blk_put (cs := #[.bool false, .int .i64 0, .int .i64 0, .int .i64 0]) ?_ 0 _ rfl; refine bk_ ?_; exact BK426.out) hb); have n2_ := Aside0.mk (below_step (hc_ HB.out GE426.out) hb); clear HO425; clear BK426; clear HB; have HO425 := n0_; have BK426 := n1_; have HB := n2_; clear n0_ n1_ n2_; (try clear hb); (try clear hb2); (try clear hk); (try clear hi)) | ((with_reducible refine gate_dst (N := 5) rfl ?_); refine box_event ?hg (N := 5) ?hd (cs := #[.bool false, .int .i64 0, .int .i64 0]) (t := 29) ?hr ?_; (case hd => rfl); (case hg => rfl); (case hr => first | (go_simp; done) | (go_simp; rfl)); intro gb431 hg w13 hbox hb; have n0_ := Aside0.mk (Kd.R_below (Kd.R_elderB (by (with_reducible repeat (first | apply Kd.R_alloc | apply Kd.R_drewN | apply Kd.R_drew)); exact HO425.out) gb431 (Nat.le_of_eq hg.symm)) hb); have n1_ := Aside0.mk (blk_below (bk_ BK426.out) hb); have n2_ := Aside0.mk (below_step (hc_ HB.out GE426.out) hb); have n3_ := Aside0.mk (hbox); have n4_ := bg_ hg (below_size (hc_ HB.out GE426.out)); have n5_ := bg_ hg (below_size (hc_ HB.out GE426.out)); have n6_ := bn_ hg (blk_lt (bk_ BK426.out)); have n7_ := bm_ hg (blk_lt (bk_ BK426.out)); clear HO425; clear BK426; clear HB; have HO425 := n0_; have BK426 := n1_; have HB := n2_; have BK431 := n3_; have GW431 := n4_; have GE431 := n5_; have NB426_431 := n6_; have NB431_426 := n7_; clear n0_ n1_ n2_ n3_ n4_ n5_ n6_ n7_; clear hb hbox hg; have hnb14 := NB431_426.out; have hnc14 := NB426_431.out; obtain ⟨hcz15_0, hcz15_1, hcz15_2, hfz15_0, hfz15_1, hfz15_2⟩ := bc3_ BK431.out; obtain ⟨hcz16_0, hcz16_1, hcz16_2, hcz16_3, hfz16_0, hfz16_1, hfz16_2, hfz16_3⟩ := bc4_ BK426.out) | (go_at_call 28; (with_reducible refine (spec_FirstAddr.calls k t419 t420 t421 t422 _ _ t423 t432 t433 t434 t435 _ ?side1 ?side2 A6.out).mono ?_); (case side1 => refine (Kd.R_reads' (e := 29) (base := w.heap.size) (ok := fun k_ => (True ∧ k_ ≠ gb431)) (n := t423.length) (c := co11) ?_).2.2; exact (by (with_reducible repeat (first | apply Kd.R_alloc | apply Kd.R_drewN | apply Kd.R_drew)); exact (Kd.R_mono (Kd.R_far (p := ⟨gb431, 2, none⟩) (Kd.R_far (p := ⟨gb431, 1, none⟩) (Kd.R_far (p := ⟨gb431, 0, none⟩) (Kd.R_mono HO425.out (fun k_ hk => (⟨hk, hk.2⟩ : _ ∧ k_ ≠ gb431))) (fun _ hk => hk.2) (.bool t427)) (fun _ hk => hk.2) (.int .i64 t428)) (fun _ hk => hk.2) (.int .i64 t429)) (fun _ h_ => h_.1)))); (case side2 => exact (Kd.R_reads' HO425.out).2.1); rintro e w17 ⟨rfl, hb⟩; have n0_ := Aside0.mk (Kd.R_below (by (with_reducible repeat (first | apply Kd.R_alloc | apply Kd.R_drewN | apply Kd.R_drew)); exact (Kd.R_mono (Kd.R_far (p := ⟨gb431, 2, none⟩) (Kd.R_far (p := ⟨gb431, 1, none⟩) (Kd.R_far (p := ⟨gb431, 0, none⟩) (Kd.R_mono HO425.out (fun k_ hk => (⟨hk, hk.2⟩ : _ ∧ k_ ≠ gb431))) (fun _ hk => hk.2) (.bool t427)) (fun _ hk => hk.2) (.int .i64 t428)) (fun _ hk => hk.2) (.int .i64 t429)) (fun _ h_ => h_.1))) hb); have n1_ := Aside0.mk (blk_below (g := gb426) (o := .cells #[.bool t419, .int .i64 t420, .int .i64 t421, .int .i64 t422] 31 (0, 0)) (by refine bk_ ?_; refine blk_far ?_ NB426_431.out _; refine bk_ ?_; refine blk_far ?_ NB426_431.out _; refine bk_ ?_; refine blk_far ?_ NB426_431.out _; refine bk_ ?_; exact BK426.out) hb); have n2_ := Aside0.mk (blk_below (g := gb431) (o := .cells #[.bool t427, .int .i64 t428, .int .i64 t429] 29 (0, 0)) (by refine bk_ ?_; refine blk_put (cs := #[.bool t427, .int .i64 t428, .int .i64 0]) ?_ 2 _ rfl; refine bk_ ?_; refine blk_put (cs := #[.bool t427, .int .i64 0, .int .i64 0]) ?_ 1 _ rfl; refine bk_ ?_; refine blk_put (cs := #[.bool false, .int .i64 0, .int .i64 0]) ?_ 0 _ rfl; refine bk_ ?_; exact BK431.out) hb); have n3_ := Aside0.mk (below_step (hd_ HB.out GE426.out GE431.out) hb); clear HO425; clear BK426; clear BK431; clear HB; have HO425 := n0_; have BK426 := n1_; have BK431 := n2_; have HB := n3_; clear n0_ n1_ n2_ n3_; (try clear hb); (try clear hb2); (try clear hk); (try clear hi)) | ((with_reducible refine gate_dst (N := 7) rfl ?_); refine box_event ?hg (N := 7) ?hd (cs := #[.bool false, .int .i64 0, .int .i64 0]) (t := 29) ?hr ?_; (case hd => rfl); (case hg => rfl); (case hr => first | (go_simp; done) | (go_simp; rfl)); intro gb436 hg w18 hbox hb; have n0_ := Aside0.mk (Kd.R_below (Kd.R_elderB (by (with_reducible repeat (first | apply Kd.R_alloc | apply Kd.R_drewN | apply Kd.R_drew)); exact HO425.out) gb436 (Nat.le_of_eq hg.symm)) hb); have n1_ := Aside0.mk (blk_below (bk_ BK426.out) hb); have n2_ := Aside0.mk (blk_below (bk_ BK431.out) hb); have n3_ := Aside0.mk (below_step (hd_ HB.out GE426.out GE431.out) hb); have n4_ := Aside0.mk (hbox); have n5_ := bg_ hg (below_size (hd_ HB.out GE426.out GE431.out)); have n6_ := bg_ hg (below_size (hd_ HB.out GE426.out GE431.out)); have n7_ := bn_ hg (blk_lt (bk_ BK426.out)); have n8_ := bm_ hg (blk_lt (bk_ BK426.out)); have n9_ := bn_ hg (blk_lt (bk_ BK431.out)); have n10_ := bm_ hg (blk_lt (bk_ BK431.out)); clear HO425; clear BK426; clear BK431; clear HB; have HO425 := n0_; have BK426 := n1_; have BK431 := n2_; have HB := n3_; have BK436 := n4_; have GW436 := n5_; have GE436 := n6_; have NB426_436 := n7_; have NB436_426 := n8_; have NB431_436 := n9_; have NB436_431 := n10_; clear n0_ n1_ n2_ n3_ n4_ n5_ n6_ n7_ n8_ n9_ n10_; clear hb hbox hg; have hnb19 := NB436_426.out; have hnc19 := NB426_436.out; have hnb20 := NB436_431.out; have hnc20 := NB431_436.out; obtain ⟨hcz21_0, hcz21_1, hcz21_2, hfz21_0, hfz21_1, hfz21_2⟩ := bc3_ BK436.out)); go_upto_region 6 with (first | (go_at_call 33; (with_reducible refine (laws_big.calls _ _ l0 false _ ?side1 ?side2 A2.out).mono ?_); (case side1 => repeat (first | exact HR0.out | (with_reducible refine Kd.C_alloc ?_ _) | (with_reducible refine Kd.C_drewN ?_ _) | (with_reducible refine Kd.C_drew ?_))); (case side2 => exact HC0.out); rintro e w' ⟨rfl, ⟨nd, rfl⟩⟩; (try first | exact ⟨rfl, _, World.drewN_drewN _ _ _⟩ | exact ⟨rfl, _, Eq.trans (World.drewN_drewN _ _ _) (congrArg (World.drewN _) (Nat.add_assoc _ _ _))⟩)) | (go_at_call 47; (with_reducible refine (spec_DrawFirstAddr.calls k _ _ l0 t419 t420 t421 t422 t423 _ ?side1 ?side2 A4.out).mono ?_); (case side1 => repeat (first | exact HR0.out | (with_reducible refine Kd.C_alloc ?_ _) | (with_reducible refine Kd.C_drewN ?_ _) | (with_reducible refine Kd.C_drew ?_))); (case side2 => exact HC0.out); rintro e w8 ⟨v424, rfl, ho0, hb⟩; have n0_ := Aside0.mk (Kd.R_lower ho0 (below_size (hb_ HB.out))); have n1_ := Aside0.mk (below_step (hb_ HB.out) hb); clear HB; have HO425 := n0_; have HB := n1_; clear n0_ n1_; (try clear hb); (try clear hb2); (try clear hk); (try clear hi); (try clear ho0)) | ((with_reducible refine gate_dst (N := 3) rfl ?_); refine box_event ?hg (N := 3) ?hd (cs := #[.bool false, .int .i64 0, .int .i64 0, .int .i64 0]) (t := 31) ?hr ?_; (case hd => rfl); (case hg => rfl); (case hr => first | (go_simp; done) | (go_simp; rfl)); intro gb426 hg w9 hbox hb; have n0_ := Aside0.mk (Kd.R_below (by (with_reducible repeat (first | apply Kd.R_alloc | apply Kd.R_drewN | apply Kd.R_drew)); exact HO425.out) hb); have n1_ := Aside0.mk (below_step (hb_ HB.out) hb); have n2_ := Aside0.mk (hbox); have n3_ := bg_ hg (below_size (hb_ HB.out)); have n4_ := bg_ hg (below_size (hb_ HB.out)); clear HO425; clear HB; have HO425 := n0_; have HB := n1_; have BK426 := n2_; have GW426 := n3_; have GE426 := n4_; clear n0_ n1_ n2_ n3_ n4_; clear hb hbox hg; obtain ⟨hcz10_0, hcz10_1, hcz10_2, hcz10_3, hfz10_0, hfz10_1, hfz10_2, hfz10_3⟩ := bc4_ BK426.out; obtain ⟨Ao11, co11, eo11⟩ := Kd.R_slice HO425.out; subst eo11) | (go_at_call 30; (with_reducible refine (impl_FirstAddr.calls k t419 t420 t421 t422 _ _ t423 t427 t428 t429 t430 _ ?side1 ?side2 A5.out).mono ?_); (case side1 => refine (Kd.R_reads' (e := 29) (base := w.heap.size) (ok := fun k_ => True) (n := t423.length) (c := co11) ?_).2.2; exact (by (with_reducible repeat (first | apply Kd.R_alloc | apply Kd.R_drewN | apply Kd.R_drew)); exact (Kd.R_mono (Kd.R_far (p := ⟨gb426, 3, none⟩) (Kd.R_far (p := ⟨gb426, 2, none⟩) (Kd.R_far (p := ⟨gb426, 1, none⟩) (Kd.R_far (p := ⟨gb426, 0, none⟩) (Kd.R_types HO425.out BK426.out (by decide)) (fun _ hk => hk.2) (.bool t419)) (fun _ hk => hk.2) (.int .i64 t420)) (fun _ hk => hk.2) (.int .i64 t421)) (fun _ hk => hk.2) (.int .i64 t422)) (fun _ h_ => h_.1)))); (case side2 => exact (Kd.R_reads' HO425.out).2.1); rintro e w12 ⟨rfl, hb⟩; have n0_ := Aside0.mk (Kd.R_below (by (with_reducible repeat (first | apply Kd.R_alloc | apply Kd.R_drewN | apply Kd.R_drew)); exact (Kd.R_mono (Kd.R_far (p := ⟨gb426, 3, none⟩) (Kd.R_far (p := ⟨gb426, 2, none⟩) (Kd.R_far (p := ⟨gb426, 1, none⟩) (Kd.R_far (p := ⟨gb426, 0, none⟩) (Kd.R_types HO425.out BK426.out (by decide)) (fun _ hk => hk.2) (.bool t419)) (fun _ hk => hk.2) (.int .i64 t420)) (fun _ hk => hk.2) (.int .i64 t421)) (fun _ hk => hk.2) (.int .i64 t422)) (fun _ h_ => h_.1))) hb); have n1_ := Aside0.mk (blk_below (g := gb426) (o := .cells #[.bool t419, .int .i64 t420, .int .i64 t421, .int .i64 t422] 31 (0, 0)) (by refine bk_ ?_; refine blk_put (cs := #[.bool t419, .int .i64 t420, .int .i64 t421, .int .i64 0]) ?_ 3 _ rfl; refine bk_ ?_; refine blk_put (cs := #[.bool t419, .int .i64 t420, .int .i64 0, .int .i64 0]) ?_ 2 _ rfl; refine bk_ ?_; refine blk_put (cs := #[.bool t419, .int .i64 0, .int .i64 0, .int .i64 0]) ?_ 1 _ rfl; refine bk_ ?_; refine blk_put (cs := #[.bool false, .int .i64 0, .int .i64 0, .int .i64 0]) ?_ 0 _ rfl; refine bk_ ?_; exact BK426.out) hb); have n2_ := Aside0.mk (below_step (hc_ HB.out GE426.out) hb); clear HO425; clear BK426; clear HB; have HO425 := n0_; have BK426 := n1_; have HB := n2_; clear n0_ n1_ n2_; (try clear hb); (try clear hb2); (try clear hk); (try clear hi)) | ((with_reducible refine gate_dst (N := 5) rfl ?_); refine box_event ?hg (N := 5) ?hd (cs := #[.bool false, .int .i64 0, .int .i64 0]) (t := 29) ?hr ?_; (case hd => rfl); (case hg => rfl); (case hr => first | (go_simp; done) | (go_simp; rfl)); intro gb431 hg w13 hbox hb; have n0_ := Aside0.mk (Kd.R_below (Kd.R_elderB (by (with_reducible repeat (first | apply Kd.R_alloc | apply Kd.R_drewN | apply Kd.R_drew)); exact HO425.out) gb431 (Nat.le_of_eq hg.symm)) hb); have n1_ := Aside0.mk (blk_below (bk_ BK426.out) hb); have n2_ := Aside0.mk (below_step (hc_ HB.out GE426.out) hb); have n3_ := Aside0.mk (hbox); have n4_ := bg_ hg (below_size (hc_ HB.out GE426.out)); have n5_ := bg_ hg (below_size (hc_ HB.out GE426.out)); have n6_ := bn_ hg (blk_lt (bk_ BK426.out)); have n7_ := bm_ hg (blk_lt (bk_ BK426.out)); clear HO425; clear BK426; clear HB; have HO425 := n0_; have BK426 := n1_; have HB := n2_; have BK431 := n3_; have GW431 := n4_; have GE431 := n5_; have NB426_431 := n6_; have NB431_426 := n7_; clear n0_ n1_ n2_ n3_ n4_ n5_ n6_ n7_; clear hb hbox hg; have hnb14 := NB431_426.out; have hnc14 := NB426_431.out; obtain ⟨hcz15_0, hcz15_1, hcz15_2, hfz15_0, hfz15_1, hfz15_2⟩ := bc3_ BK431.out; obtain ⟨hcz16_0, hcz16_1, hcz16_2, hcz16_3, hfz16_0, hfz16_1, hfz16_2, hfz16_3⟩ := bc4_ BK426.out) | (go_at_call 28; (with_reducible refine (spec_FirstAddr.calls k t419 t420 t421 t422 _ _ t423 t432 t433 t434 t435 _ ?side1 ?side2 A6.out).mono ?_); (case side1 => refine (Kd.R_reads' (e := 29) (base := w.heap.size) (ok := fun k_ => (True ∧ k_ ≠ gb431)) (n := t423.length) (c := co11) ?_).2.2; exact (by (with_reducible repeat (first | apply Kd.R_alloc | apply Kd.R_drewN | apply Kd.R_drew)); exact (Kd.R_mono (Kd.R_far (p := ⟨gb431, 2, none⟩) (Kd.R_far (p := ⟨gb431, 1, none⟩) (Kd.R_far (p := ⟨gb431, 0, none⟩) (Kd.R_mono HO425.out (fun k_ hk => (⟨hk, hk.2⟩ : _ ∧ k_ ≠ gb431))) (fun _ hk => hk.2) (.bool t427)) (fun _ hk => hk.2) (.int .i64 t428)) (fun _ hk => hk.2) (.int .i64 t429)) (fun _ h_ => h_.1)))); (case side2 => exact (Kd.R_reads' HO425.out).2.1); rintro e w17 ⟨rfl, hb⟩; have n0_ := Aside0.mk (Kd.R_below (by (with_reducible repeat (first | apply Kd.R_alloc | apply Kd.R_drewN | apply Kd.R_drew)); exact (Kd.R_mono (Kd.R_far (p := ⟨gb431, 2, none⟩) (Kd.R_far (p := ⟨gb431, 1, none⟩) (Kd.R_far (p := ⟨gb431, 0, none⟩) (Kd.R_mono HO425.out (fun k_ hk => (⟨hk, hk.2⟩ : _ ∧ k_ ≠ gb431))) (fun _ hk => hk.2) (.bool t427)) (fun _ hk => hk.2) (.int .i64 t428)) (fun _ hk => hk.2) (.int .i64 t429)) (fun _ h_ => h_.1))) hb); have n1_ := Aside0.mk (blk_below (g := gb426) (o := .cells #[.bool t419, .int .i64 t420, .int .i64 t421, .int .i64 t422] 31 (0, 0)) (by refine bk_ ?_; refine blk_far ?_ NB426_431.out _; refine bk_ ?_; refine blk_far ?_ NB426_431.out _; refine bk_ ?_; refine blk_far ?_ NB426_431.out _; refine bk_ ?_; exact BK426.out) hb); have n2_ := Aside0.mk (blk_below (g := gb431) (o := .cells #[.bool t427, .int .i64 t428, .int .i64 t429] 29 (0, 0)) (by refine bk_ ?_; refine blk_put (cs := #[.bool t427, .int .i64 t428, .int .i64 0]) ?_ 2 _ rfl; refine bk_ ?_; refine blk_put (cs := #[.bool t427, .int .i64 0, .int .i64 0]) ?_ 1 _ rfl; refine bk_ ?_; refine blk_put (cs := #[.bool false, .int .i64 0, .int .i64 0]) ?_ 0 _ rfl; refine bk_ ?_; exact BK431.out) hb); have n3_ := Aside0.mk (below_step (hd_ HB.out GE426.out GE431.out) hb); clear HO425; clear BK426; clear BK431; clear HB; have HO425 := n0_; have BK426 := n1_; have BK431 := n2_; have HB := n3_; clear n0_ n1_ n2_ n3_; (try clear hb); (try clear hb2); (try clear hk); (try clear hi)) | ((with_reducible refine gate_dst (N := 7) rfl ?_); refine box_event ?hg (N := 7) ?hd (cs := #[.bool false, .int .i64 0, .int .i64 0]) (t := 29) ?hr ?_; (case hd => rfl); (case hg => rfl); (case hr => first | (go_simp; done) | (go_simp; rfl)); intro gb436 hg w18 hbox hb; have n0_ := Aside0.mk (Kd.R_below (Kd.R_elderB (by (with_reducible repeat (first | apply Kd.R_alloc | apply Kd.R_drewN | apply Kd.R_drew)); exact HO425.out) gb436 (Nat.le_of_eq hg.symm)) hb); have n1_ := Aside0.mk (blk_below (bk_ BK426.out) hb); have n2_ := Aside0.mk (blk_below (bk_ BK431.out) hb); have n3_ := Aside0.mk (below_step (hd_ HB.out GE426.out GE431.out) hb); have n4_ := Aside0.mk (hbox); have n5_ := bg_ hg (below_size (hd_ HB.out GE426.out GE431.out)); have n6_ := bg_ hg (below_size (hd_ HB.out GE426.out GE431.out)); have n7_ := bn_ hg (blk_lt (bk_ BK426.out)); have n8_ := bm_ hg (blk_lt (bk_ BK426.out)); have n9_ := bn_ hg (blk_lt (bk_ BK431.out)); have n10_ := bm_ hg (blk_lt (bk_ BK431.out)); clear HO425; clear BK426; clear BK431; clear HB; have HO425 := n0_; have BK426 := n1_; have BK431 := n2_; have HB := n3_; have BK436 := n4_; have GW436 := n5_; have GE436 := n6_; have NB426_436 := n7_; have NB436_426 := n8_; have NB431_436 := n9_; have NB436_431 := n10_; clear n0_ n1_ n2_ n3_ n4_ n5_ n6_ n7_ n8_ n9_ n10_; clear hb hbox hg; have hnb19 := NB436_426.out; have hnc19 := NB426_436.out; have hnb20 := NB436_431.out; have hnc20 := NB431_436.out; obtain ⟨hcz21_0, hcz21_1, hcz21_2, hfz21_0, hfz21_1, hfz21_2⟩ := bc3_ BK436.out)))
  (try simp only [Act.put, List.setIfInBounds_toArray, List.set_cons_zero, List.set_cons_succ])
  go_cut [41] (fun v41 wc => ∃ (kq : Nat) (x41_6 : Bool), v41 = .bool x41_6 ∧ Aside0 (laws_FnFirstAddr.j0 kq t423 t430 t435 x41_6 t419 t420 t421 t422 t427 t428 t429 = some r) ∧ Aside0 (kq ≤ k) ∧ Aside0 (Kd.R k29 29 wc w.heap.size (fun k_ => k_ ≠ gb431 ∧ k_ ≠ gb436) (.slice Ao11 t423.length co11) t423) ∧ Aside0 (wc.heap[gb426]? = some (.cells #[.bool t419, .int .i64 t420, .int .i64 t421, .int .i64 t422] 31 (0, 0))) ∧ Aside0 (wc.heap[gb431]? = some (.cells #[.bool t427, .int .i64 t428, .int .i64 t429] 29 (0, 0))) ∧ Aside0 (wc.heap[gb436]? = some (.cells #[.bool t432, .int .i64 t433, .int .i64 t434] 29 (0, 0))) ∧ Aside0 (Below w.heap.size w wc))
  case first =>
   have H := HC7.out
   clear HC7
   by_cases c22 : (t430 != t435) = true
   ·rw [if_pos c22] at H
    have c22b0 : (t430 != t435) = true := c22
    (try (have c22b1 : decide (t430 = t435) = false := by simpa using c22))
    (try (have c22b2 : (t430 == t435) = false := by simpa using c22))
    (try (have c22b3 : ¬ (t430 = t435) := by simpa using c22))
    clear c22
    (first | rw [c22b0] | (simp only [i64_w, i32_w]; rw [c22b0]) | skip)
    have H' := Aside0.mk H
    clear H
    go_wp2
    repeat (go_quiet (fail); try go_wp2)
    go_meet
    case rel => exact ⟨_, (true), (by first | rfl | (simp; done) | (simp [*]; done)), H', ⟨by first | omega | exact Nat.le_refl _⟩, ⟨by (with_reducible repeat (first | apply Kd.R_alloc | apply Kd.R_drewN | apply Kd.R_drew)); exact Kd.R_mono (Kd.R_far (p := ⟨gb436, 2, none⟩) (Kd.R_far (p := ⟨gb436, 1, none⟩) (Kd.R_far (p := ⟨gb436, 0, none⟩) (Kd.R_mono HO425.out (fun k_ hk => (⟨hk, hk.2⟩ : _ ∧ k_ ≠ gb436))) (fun _ hk => hk.2) (.bool t432)) (fun _ hk => hk.2) (.int .i64 t433)) (fun _ hk => hk.2) (.int .i64 t434)) (fun _ hk => ⟨hk.1.1.2, hk.1.2⟩)⟩, ⟨by refine bk_ ?_; refine blk_far ?_ NB426_436.out _; refine bk_ ?_; refine blk_far ?_ NB426_436.out _; refine bk_ ?_; refine blk_far ?_ NB426_436.out _; refine bk_ ?_; exact BK426.out⟩, ⟨by refine bk_ ?_; refine blk_far ?_ NB431_436.out _; refine bk_ ?_; refine blk_far ?_ NB431_436.out _; refine bk_ ?_; refine blk_far ?_ NB431_436.out _; refine bk_ ?_; exact BK431.out⟩, ⟨by refine bk_ ?_; refine blk_put (cs := #[.bool t432, .int .i64 t433, .int .i64 0]) ?_ 2 _ rfl; refine bk_ ?_; refine blk_put (cs := #[.bool t432, .int .i64 0, .int .i64 0]) ?_ 1 _ rfl; refine bk_ ?_; refine blk_put (cs := #[.bool false, .int .i64 0, .int .i64 0]) ?_ 0 _ rfl; refine bk_ ?_; exact BK436.out⟩, ⟨by repeat (first | (with_reducible first | exact HB.out | apply below_alloc | apply pw_below_drewN | apply below_drew1 | refine below_set ?_ GE426.out | refine below_set ?_ GE431.out | refine below_set ?_ GE436.out) | exact HB.out)⟩⟩
   ·rw [if_neg c22] at H
    have c22b0 : (t430 != t435) = false := by simpa using c22
    (try (have c22b1 : decide (t430 = t435) = true := by simpa using c22))
    (try (have c22b2 : (t430 == t435) = true := by simpa using c22))
    clear c22
    (first | rw [c22b0] | (simp only [i64_w, i32_w]; rw [c22b0]) | skip)
    have H' := Aside0.mk H
    clear H
    go_wp2
    repeat (go_quiet (fail); try go_wp2)
    go_meet
    case rel => exact ⟨_, (!t430), (by first | rfl | (simp; done) | (simp [*]; done)), H', ⟨by first | omega | exact Nat.le_refl _⟩, ⟨by (with_reducible repeat (first | apply Kd.R_alloc | apply Kd.R_drewN | apply Kd.R_drew)); exact Kd.R_mono (Kd.R_far (p := ⟨gb436, 2, none⟩) (Kd.R_far (p := ⟨gb436, 1, none⟩) (Kd.R_far (p := ⟨gb436, 0, none⟩) (Kd.R_mono HO425.out (fun k_ hk => (⟨hk, hk.2⟩ : _ ∧ k_ ≠ gb436))) (fun _ hk => hk.2) (.bool t432)) (fun _ hk => hk.2) (.int .i64 t433)) (fun _ hk => hk.2) (.int .i64 t434)) (fun _ hk => ⟨hk.1.1.2, hk.1.2⟩)⟩, ⟨by refine bk_ ?_; refine blk_far ?_ NB426_436.out _; refine bk_ ?_; refine blk_far ?_ NB426_436.out _; refine bk_ ?_; refine blk_far ?_ NB426_436.out _; refine bk_ ?_; exact BK426.out⟩, ⟨by refine bk_ ?_; refine blk_far ?_ NB431_436.out _; refine bk_ ?_; refine blk_far ?_ NB431_436.out _; refine bk_ ?_; refine blk_far ?_ NB431_436.out _; refine bk_ ?_; exact BK431.out⟩, ⟨by refine bk_ ?_; refine blk_put (cs := #[.bool t432, .int .i64 t433, .int .i64 0]) ?_ 2 _ rfl; refine bk_ ?_; refine blk_put (cs := #[.bool t432, .int .i64 0, .int .i64 0]) ?_ 1 _ rfl; refine bk_ ?_; refine blk_put (cs := #[.bool false, .int .i64 0, .int .i64 0]) ?_ 0 _ rfl; refine bk_ ?_; exact BK436.out⟩, ⟨by repeat (first | (with_reducible first | exact HB.out | apply below_alloc | apply pw_below_drewN | apply below_drew1 | refine below_set ?_ GE426.out | refine below_set ?_ GE431.out | refine below_set ?_ GE436.out) | exact HB.out)⟩⟩
  case rest =>
   clear HC7
   try clear c1
   try clear c2
   try clear p2
   try clear c3
   try clear c8
   try clear c14
   try clear c19
   try clear c20
   try clear c22
   try clear c22b0
   try clear c22b1
   try clear c22b2
   try clear hcz10_0
   try clear hcz10_1
   try clear hcz10_2
   try clear hcz10_3
   try clear hcz15_0
   try clear hcz15_1
   try clear hcz15_2
   try clear hcz16_0
   try clear hcz16_1
   try clear hcz16_2
   try clear hcz16_3
   try clear hcz21_0
   try clear hcz21_1
   try clear hcz21_2
   try clear hfz10_0
   try clear hfz10_1
   try clear hfz10_2
   try clear hfz10_3
   try clear hfz15_0
   try clear hfz15_1
   try clear hfz15_2
   try clear hfz16_0
   try clear hfz16_1
   try clear hfz16_2
   try clear hfz16_3
   try clear hfz21_0
   try clear hfz21_1
   try clear hfz21_2
   obtain ⟨kq, x41_6, rfl, HA, HJ6, HO_4, BK426, BK431, BK436, HB⟩ := hcut
   cases kq with
   | zero => exact absurd HA.out (by simp [laws_FnFirstAddr.j0])
   | succ kj6 =>
    have H := HA.out
    clear HA
    simp only [laws_FnFirstAddr.j0] at H
    by_cases c23 : x41_6 = true
    ·subst c23
     have H1 : (some (t430 == t435)) = some r := by rw [if_pos rfl] at H; exact H
     clear H
     have H := H1
     clear H1
     obtain rfl := Option.some.inj H
     go_wp2
     repeat (go_quiet (fail); try go_wp2)
     go_ret
     exact ⟨pe_, by repeat (first | (with_reducible first | exact HB.out | apply below_alloc | apply pw_below_drewN | apply below_drew1 | refine below_set ?_ GE426.out | refine below_set ?_ GE431.out | refine below_set ?_ GE436.out) | exact HB.out)⟩
    ·replace c23 := Bool.eq_false_iff.mpr c23
     subst c23
     have H1 : ((impl_PlaceOf.f kj6 t419 t420 t421 t422 t427 t428 t429).bind fun bt437 => (if bt437.2 = true then (laws_FnFirstAddr.l0 kj6 t423 bt437.1 0 t419 t420 t421 t422) else (some false))) = some r := by rw [if_neg (show ¬ (false = true) by decide)] at H; exact H
     clear H
     have H := H1
     clear H1
     replace H := Option.bind_eq_some_iff.mp H
     obtain ⟨⟨t437, t438⟩, A240, H⟩ := H
     replace H : (if t438 = true then (laws_FnFirstAddr.l0 kj6 t423 t437 0 t419 t420 t421 t422) else (some false)) = some r := H
     have A24 := Aside0.mk A240
     clear A240
     by_cases c25 : t438 = true
     ·subst c25
      have H1 : (laws_FnFirstAddr.l0 kj6 t423 t437 0 t419 t420 t421 t422) = some r := by rw [if_pos rfl] at H; exact H
      clear H
      have H := H1
      clear H1
      have H' := Aside0.mk H
      clear H
      have hnb26 := NB426_431.out
      have hnc26 := NB431_426.out
      have hnb27 := NB426_436.out
      have hnc27 := NB436_426.out
      obtain ⟨hcz28_0, hcz28_1, hcz28_2, hcz28_3, hfz28_0, hfz28_1, hfz28_2, hfz28_3⟩ := bc4_ BK426.out
      have hnb29 := NB431_436.out
      have hnc29 := NB436_431.out
      obtain ⟨hcz30_0, hcz30_1, hcz30_2, hfz30_0, hfz30_1, hfz30_2⟩ := bc3_ BK431.out
      go_wp2_with (first | (go_at_call 48; (with_reducible refine (impl_PlaceOf.calls kj6 t419 t420 t421 t422 t427 t428 t429 t437 true _ A24.out).mono ?_); rintro e w31 ⟨rfl, hb⟩; have n0_ := Aside0.mk (Kd.R_below (by (with_reducible repeat (first | apply Kd.R_alloc | apply Kd.R_drewN | apply Kd.R_drew)); exact HO_4.out) hb); have n1_ := Aside0.mk (blk_below (bk_ BK426.out) hb); have n2_ := Aside0.mk (blk_below (bk_ BK431.out) hb); have n3_ := Aside0.mk (blk_below (bk_ BK436.out) hb); have n4_ := Aside0.mk (below_step (by repeat (first | (with_reducible first | exact HB.out | apply below_alloc | apply pw_below_drewN | apply below_drew1 | refine below_set ?_ GE426.out | refine below_set ?_ GE431.out | refine below_set ?_ GE436.out) | exact HB.out)) hb); clear HO_4; clear BK426; clear BK431; clear BK436; clear HB; have HO_4 := n0_; have BK426 := n1_; have BK431 := n2_; have BK436 := n3_; have HB := n4_; clear n0_ n1_ n2_ n3_ n4_; (try clear hb); (try clear hb2); (try clear hk); (try clear hi)))
      repeat (go_quiet (first | (go_at_call 48; (with_reducible refine (impl_PlaceOf.calls kj6 t419 t420 t421 t422 t427 t428 t429 t437 true _ A24.out).mono ?_); rintro e w31 ⟨rfl, hb⟩; have n0_ := Aside0.mk (Kd.R_below (by (with_reducible repeat (first | apply Kd.R_alloc | apply Kd.R_drewN | apply Kd.R_drew)); exact HO_4.out) hb); have n1_ := Aside0.mk (blk_below (bk_ BK426.out) hb); have n2_ := Aside0.mk (blk_below (bk_ BK431.out) hb); have n3_ := Aside0.mk (blk_below (bk_ BK436.out) hb); have n4_ := Aside0.mk (below_step (by repeat (first | (with_reducible first | exact HB.out | apply below_alloc | apply pw_below_drewN | apply below_drew1 | refine below_set ?_ GE426.out | refine below_set ?_ GE431.out | refine below_set ?_ GE436.out) | exact HB.out)) hb); clear HO_4; clear BK426; clear BK431; clear BK436; clear HB; have HO_4 := n0_; have BK426 := n1_; have BK431 := n2_; have BK436 := n3_; have HB := n4_; clear n0_ n1_ n2_ n3_ n4_; (try clear hb); (try clear hb2); (try clear hk); (try clear hi))); try go_wp2_with (first | (go_at_call 48; (with_reducible refine (impl_PlaceOf.calls kj6 t419 t420 t421 t422 t427 t428 t429 t437 true _ A24.out).mono ?_); rintro e w31 ⟨rfl, hb⟩; have n0_ := Aside0.mk (Kd.R_below (by (with_reducible repeat (first | apply Kd.R_alloc | apply Kd.R_drewN | apply Kd.R_drew)); exact HO_4.out) hb); have n1_ := Aside0.mk (blk_below (bk_ BK426.out) hb); have n2_ := Aside0.mk (blk_below (bk_ BK431.out) hb); have n3_ := Aside0.mk (blk_below (bk_ BK436.out) hb); have n4_ := Aside0.mk (below_step (by repeat (first | (with_reducible first | exact HB.out | apply below_alloc | apply pw_below_drewN | apply below_drew1 | refine below_set ?_ GE426.out | refine below_set ?_ GE431.out | refine below_set ?_ GE436.out) | exact HB.out)) hb); clear HO_4; clear BK426; clear BK431; clear BK436; clear HB; have HO_4 := n0_; have BK426 := n1_; have BK431 := n2_; have BK436 := n3_; have HB := n4_; clear n0_ n1_ n2_ n3_ n4_; (try clear hb); (try clear hb2); (try clear hk); (try clear hi))))
      go_loopg [11] kj6 (fun kq v11 w' => ∃ (x11_2 : Int), v11 = .int .i64 x11_2 ∧ Aside0 (laws_FnFirstAddr.l0 kq t423 t437 x11_2 t419 t420 t421 t422 = some r) ∧ Aside0 (kq ≤ kj6) ∧ Aside0 (Kd.R k29 29 w' w.heap.size (fun k_ => k_ ≠ gb431 ∧ k_ ≠ gb436) (.slice Ao11 t423.length co11) t423) ∧ Aside0 (w'.heap[gb426]? = some (.cells #[.bool t419, .int .i64 t420, .int .i64 t421, .int .i64 t422] 31 (0, 0))) ∧ Aside0 (w'.heap[gb431]? = some (.cells #[.bool t427, .int .i64 t428, .int .i64 t429] 29 (0, 0))) ∧ Aside0 (w'.heap[gb436]? = some (.cells #[.bool t432, .int .i64 t433, .int .i64 t434] 29 (0, 0))) ∧ Aside0 (Below w.heap.size w w'))
      case atStart => exact ⟨(0), (by first | rfl | (simp; done) | (simp [*]; done)), H', ⟨Nat.le_refl _⟩, ⟨by (with_reducible repeat (first | apply Kd.R_alloc | apply Kd.R_drewN | apply Kd.R_drew)); exact HO_4.out⟩, ⟨by refine bk_ ?_; exact BK426.out⟩, ⟨by refine bk_ ?_; exact BK431.out⟩, ⟨by refine bk_ ?_; exact BK436.out⟩, ⟨by repeat (first | (with_reducible first | exact HB.out | apply below_alloc | apply pw_below_drewN | apply below_drew1 | refine below_set ?_ GE426.out | refine below_set ?_ GE431.out | refine below_set ?_ GE436.out) | exact HB.out)⟩⟩
      case round =>
       clear H'
       try clear c1
       try clear c2
       try clear p2
       try clear c3
       try clear c8
       try clear c14
       try clear c19
       try clear c20
       try clear c22
       try clear c22b0
       try clear c22b1
       try clear c22b2
       try clear c23
       try clear c25
       try clear c26
       try clear c27
       try clear c29
       try clear hcz10_0
       try clear hcz10_1
       try clear hcz10_2
       try clear hcz10_3
       try clear hcz15_0
       try clear hcz15_1
       try clear hcz15_2
       try clear hcz16_0
       try clear hcz16_1
       try clear hcz16_2
       try clear hcz16_3
       try clear hcz21_0
       try clear hcz21_1
       try clear hcz21_2
       try clear hcz28_0
       try clear hcz28_1
       try clear hcz28_2
       try clear hcz28_3
       try clear hcz30_0
       try clear hcz30_1
       try clear hcz30_2
       try clear hfz10_0
       try clear hfz10_1
       try clear hfz10_2
       try clear hfz10_3
       try clear hfz15_0
       try clear hfz15_1
       try clear hfz15_2
       try clear hfz16_0
       try clear hfz16_1
       try clear hfz16_2
       try clear hfz16_3
       try clear hfz21_0
       try clear hfz21_1
       try clear hfz21_2
       try clear hfz28_0
       try clear hfz28_1
       try clear hfz28_2
       try clear hfz28_3
       try clear hfz30_0
       try clear hfz30_1
       try clear hfz30_2
       try clear p2
       obtain ⟨x11_2, rfl, HA, HK2, HO_4, BK426, BK431, BK436, HB⟩ := hrel
       cases gk with
       | zero => exact absurd HA.out (by simp [laws_FnFirstAddr.l0])
       | succ k2 =>
        have H := HA.out
        clear HA
        simp only [laws_FnFirstAddr.l0] at H
        by_cases c32 : x11_2 ≤ t437
        ·rw [if_pos c32] at H
         have c32b0 : decide (x11_2 ≤ t437) = true := decide_eq_true c32
         clear c32
         replace H := Option.bind_eq_some_iff.mp H
         obtain ⟨⟨t439, t440, t441, t442⟩, A330, H⟩ := H
         replace H : (laws_FnFirstAddr.l1 k2 t423 t437 x11_2 false 0 t419 t420 t421 t422 t439 t440 t441) = some r := H
         have A33 := Aside0.mk A330
         clear A330
         have H' := Aside0.mk H
         clear H
         have hnb34 := NB426_431.out
         have hnc34 := NB431_426.out
         have hnb35 := NB426_436.out
         have hnc35 := NB436_426.out
         obtain ⟨hcz36_0, hcz36_1, hcz36_2, hcz36_3, hfz36_0, hfz36_1, hfz36_2, hfz36_3⟩ := bc4_ BK426.out
         go_wp2_with (first | (go_at_call 41; (with_reducible refine (impl_NthOf.calls t419 t420 t421 t422 x11_2 t439 t440 t441 t442 _ A33.out).mono ?_); rintro e w37 ⟨rfl, hb⟩; have n0_ := Aside0.mk (Kd.R_below (by (with_reducible repeat (first | apply Kd.R_alloc | apply Kd.R_drewN | apply Kd.R_drew)); exact HO_4.out) hb); have n1_ := Aside0.mk (blk_below (bk_ BK426.out) hb); have n2_ := Aside0.mk (blk_below (bk_ BK431.out) hb); have n3_ := Aside0.mk (blk_below (bk_ BK436.out) hb); have n4_ := Aside0.mk (below_step (by repeat (first | (with_reducible first | exact HB.out | apply below_alloc | apply pw_below_drewN | apply below_drew1 | refine below_set ?_ GE426.out | refine below_set ?_ GE431.out | refine below_set ?_ GE436.out) | exact HB.out)) hb); clear HO_4; clear BK426; clear BK431; clear BK436; clear HB; have HO_4 := n0_; have BK426 := n1_; have BK431 := n2_; have BK436 := n3_; have HB := n4_; clear n0_ n1_ n2_ n3_ n4_; (try clear hb); (try clear hb2); (try clear hk); (try clear hi)) | ((with_reducible refine gate_dst (N := 12) rfl ?_); refine box_event ?hg (N := 12) ?hd (cs := #[.bool false, .int .i64 0, .int .i64 0]) (t := 29) ?hr ?_; (case hd => rfl); (case hg => rfl); (case hr => first | (go_simp; done) | (go_simp; rfl)); intro gb443 hg w38 hbox hb; have n0_ := Aside0.mk (Kd.R_below (Kd.R_elderB (by (with_reducible repeat (first | apply Kd.R_alloc | apply Kd.R_drewN | apply Kd.R_drew)); exact HO_4.out) gb443 (Nat.le_of_eq hg.symm)) hb); have n1_ := Aside0.mk (blk_below (bk_ BK426.out) hb); have n2_ := Aside0.mk (blk_below (bk_ BK431.out) hb); have n3_ := Aside0.mk (blk_below (bk_ BK436.out) hb); have n4_ := Aside0.mk (below_step (by repeat (first | (with_reducible first | exact HB.out | apply below_alloc | apply pw_below_drewN | apply below_drew1 | refine below_set ?_ GE426.out | refine below_set ?_ GE431.out | refine below_set ?_ GE436.out) | exact HB.out)) hb); have n5_ := Aside0.mk (hbox); have n6_ := Aside0.mk ((by rw [hg]; exact (below_size (by repeat (first | (with_reducible first | exact HB.out | apply below_alloc | apply pw_below_drewN | apply below_drew1 | refine below_set ?_ GE426.out | refine below_set ?_ GE431.out | refine below_set ?_ GE436.out) | exact HB.out))) : w.heap.size ≤ gb443)); have n7_ := Aside0.mk ((by rw [hg]; exact (below_size (by repeat (first | (with_reducible first | exact HB.out | apply below_alloc | apply pw_below_drewN | apply below_drew1 | refine below_set ?_ GE426.out | refine below_set ?_ GE431.out | refine below_set ?_ GE436.out) | exact HB.out))) : w.heap.size ≤ gb443)); have n8_ := bn_ hg (blk_lt (bk_ BK426.out)); have n9_ := bm_ hg (blk_lt (bk_ BK426.out)); have n10_ := bn_ hg (blk_lt (bk_ BK431.out)); have n11_ := bm_ hg (blk_lt (bk_ BK431.out)); have n12_ := bn_ hg (blk_lt (bk_ BK436.out)); have n13_ := bm_ hg (blk_lt (bk_ BK436.out)); clear HO_4; clear BK426; clear BK431; clear BK436; clear HB; have HO_4 := n0_; have BK426 := n1_; have BK431 := n2_; have BK436 := n3_; have HB := n4_; have BK443 := n5_; have GW443 := n6_; have GE443 := n7_; have NB426_443 := n8_; have NB443_426 := n9_; have NB431_443 := n10_; have NB443_431 := n11_; have NB436_443 := n12_; have NB443_436 := n13_; clear n0_ n1_ n2_ n3_ n4_ n5_ n6_ n7_ n8_ n9_ n10_ n11_ n12_ n13_; clear hb hbox hg; have hnb39 := NB443_426.out; have hnc39 := NB426_443.out; have hnb40 := NB443_431.out; have hnc40 := NB431_443.out; have hnb41 := NB443_436.out; have hnc41 := NB436_443.out; obtain ⟨hcz42_0, hcz42_1, hcz42_2, hfz42_0, hfz42_1, hfz42_2⟩ := bc3_ BK443.out))
         repeat (go_quiet (first | (go_at_call 41; (with_reducible refine (impl_NthOf.calls t419 t420 t421 t422 x11_2 t439 t440 t441 t442 _ A33.out).mono ?_); rintro e w37 ⟨rfl, hb⟩; have n0_ := Aside0.mk (Kd.R_below (by (with_reducible repeat (first | apply Kd.R_alloc | apply Kd.R_drewN | apply Kd.R_drew)); exact HO_4.out) hb); have n1_ := Aside0.mk (blk_below (bk_ BK426.out) hb); have n2_ := Aside0.mk (blk_below (bk_ BK431.out) hb); have n3_ := Aside0.mk (blk_below (bk_ BK436.out) hb); have n4_ := Aside0.mk (below_step (by repeat (first | (with_reducible first | exact HB.out | apply below_alloc | apply pw_below_drewN | apply below_drew1 | refine below_set ?_ GE426.out | refine below_set ?_ GE431.out | refine below_set ?_ GE436.out) | exact HB.out)) hb); clear HO_4; clear BK426; clear BK431; clear BK436; clear HB; have HO_4 := n0_; have BK426 := n1_; have BK431 := n2_; have BK436 := n3_; have HB := n4_; clear n0_ n1_ n2_ n3_ n4_; (try clear hb); (try clear hb2); (try clear hk); (try clear hi)) | ((with_reducible refine gate_dst (N := 12) rfl ?_); refine box_event ?hg (N := 12) ?hd (cs := #[.bool false, .int .i64 0, .int .i64 0]) (t := 29) ?hr ?_; (case hd => rfl); (case hg => rfl); (case hr => first | (go_simp; done) | (go_simp; rfl)); intro gb443 hg w38 hbox hb; have n0_ := Aside0.mk (Kd.R_below (Kd.R_elderB (by (with_reducible repeat (first | apply Kd.R_alloc | apply Kd.R_drewN | apply Kd.R_drew)); exact HO_4.out) gb443 (Nat.le_of_eq hg.symm)) hb); have n1_ := Aside0.mk (blk_below (bk_ BK426.out) hb); have n2_ := Aside0.mk (blk_below (bk_ BK431.out) hb); have n3_ := Aside0.mk (blk_below (bk_ BK436.out) hb); have n4_ := Aside0.mk (below_step (by repeat (first | (with_reducible first | exact HB.out | apply below_alloc | apply pw_below_drewN | apply below_drew1 | refine below_set ?_ GE426.out | refine below_set ?_ GE431.out | refine below_set ?_ GE436.out) | exact HB.out)) hb); have n5_ := Aside0.mk (hbox); have n6_ := Aside0.mk ((by rw [hg]; exact (below_size (by repeat (first | (with_reducible first | exact HB.out | apply below_alloc | apply pw_below_drewN | apply below_drew1 | refine below_set ?_ GE426.out | refine below_set ?_ GE431.out | refine below_set ?_ GE436.out) | exact HB.out))) : w.heap.size ≤ gb443)); have n7_ := Aside0.mk ((by rw [hg]; exact (below_size (by repeat (first | (with_reducible first | exact HB.out | apply below_alloc | apply pw_below_drewN | apply below_drew1 | refine below_set ?_ GE426.out | refine below_set ?_ GE431.out | refine below_set ?_ GE436.out) | exact HB.out))) : w.heap.size ≤ gb443)); have n8_ := bn_ hg (blk_lt (bk_ BK426.out)); have n9_ := bm_ hg (blk_lt (bk_ BK426.out)); have n10_ := bn_ hg (blk_lt (bk_ BK431.out)); have n11_ := bm_ hg (blk_lt (bk_ BK431.out)); have n12_ := bn_ hg (blk_lt (bk_ BK436.out)); have n13_ := bm_ hg (blk_lt (bk_ BK436.out)); clear HO_4; clear BK426; clear BK431; clear BK436; clear HB; have HO_4 := n0_; have BK426 := n1_; have BK431 := n2_; have BK436 := n3_; have HB := n4_; have BK443 := n5_; have GW443 := n6_; have GE443 := n7_; have NB426_443 := n8_; have NB443_426 := n9_; have NB431_443 := n10_; have NB443_431 := n11_; have NB436_443 := n12_; have NB443_436 := n13_; clear n0_ n1_ n2_ n3_ n4_ n5_ n6_ n7_ n8_ n9_ n10_ n11_ n12_ n13_; clear hb hbox hg; have hnb39 := NB443_426.out; have hnc39 := NB426_443.out; have hnb40 := NB443_431.out; have hnc40 := NB431_443.out; have hnb41 := NB443_436.out; have hnc41 := NB436_443.out; obtain ⟨hcz42_0, hcz42_1, hcz42_2, hfz42_0, hfz42_1, hfz42_2⟩ := bc3_ BK443.out)); try go_wp2_with (first | (go_at_call 41; (with_reducible refine (impl_NthOf.calls t419 t420 t421 t422 x11_2 t439 t440 t441 t442 _ A33.out).mono ?_); rintro e w37 ⟨rfl, hb⟩; have n0_ := Aside0.mk (Kd.R_below (by (with_reducible repeat (first | apply Kd.R_alloc | apply Kd.R_drewN | apply Kd.R_drew)); exact HO_4.out) hb); have n1_ := Aside0.mk (blk_below (bk_ BK426.out) hb); have n2_ := Aside0.mk (blk_below (bk_ BK431.out) hb); have n3_ := Aside0.mk (blk_below (bk_ BK436.out) hb); have n4_ := Aside0.mk (below_step (by repeat (first | (with_reducible first | exact HB.out | apply below_alloc | apply pw_below_drewN | apply below_drew1 | refine below_set ?_ GE426.out | refine below_set ?_ GE431.out | refine below_set ?_ GE436.out) | exact HB.out)) hb); clear HO_4; clear BK426; clear BK431; clear BK436; clear HB; have HO_4 := n0_; have BK426 := n1_; have BK431 := n2_; have BK436 := n3_; have HB := n4_; clear n0_ n1_ n2_ n3_ n4_; (try clear hb); (try clear hb2); (try clear hk); (try clear hi)) | ((with_reducible refine gate_dst (N := 12) rfl ?_); refine box_event ?hg (N := 12) ?hd (cs := #[.bool false, .int .i64 0, .int .i64 0]) (t := 29) ?hr ?_; (case hd => rfl); (case hg => rfl); (case hr => first | (go_simp; done) | (go_simp; rfl)); intro gb443 hg w38 hbox hb; have n0_ := Aside0.mk (Kd.R_below (Kd.R_elderB (by (with_reducible repeat (first | apply Kd.R_alloc | apply Kd.R_drewN | apply Kd.R_drew)); exact HO_4.out) gb443 (Nat.le_of_eq hg.symm)) hb); have n1_ := Aside0.mk (blk_below (bk_ BK426.out) hb); have n2_ := Aside0.mk (blk_below (bk_ BK431.out) hb); have n3_ := Aside0.mk (blk_below (bk_ BK436.out) hb); have n4_ := Aside0.mk (below_step (by repeat (first | (with_reducible first | exact HB.out | apply below_alloc | apply pw_below_drewN | apply below_drew1 | refine below_set ?_ GE426.out | refine below_set ?_ GE431.out | refine below_set ?_ GE436.out) | exact HB.out)) hb); have n5_ := Aside0.mk (hbox); have n6_ := Aside0.mk ((by rw [hg]; exact (below_size (by repeat (first | (with_reducible first | exact HB.out | apply below_alloc | apply pw_below_drewN | apply below_drew1 | refine below_set ?_ GE426.out | refine below_set ?_ GE431.out | refine below_set ?_ GE436.out) | exact HB.out))) : w.heap.size ≤ gb443)); have n7_ := Aside0.mk ((by rw [hg]; exact (below_size (by repeat (first | (with_reducible first | exact HB.out | apply below_alloc | apply pw_below_drewN | apply below_drew1 | refine below_set ?_ GE426.out | refine below_set ?_ GE431.out | refine below_set ?_ GE436.out) | exact HB.out))) : w.heap.size ≤ gb443)); have n8_ := bn_ hg (blk_lt (bk_ BK426.out)); have n9_ := bm_ hg (blk_lt (bk_ BK426.out)); have n10_ := bn_ hg (blk_lt (bk_ BK431.out)); have n11_ := bm_ hg (blk_lt (bk_ BK431.out)); have n12_ := bn_ hg (blk_lt (bk_ BK436.out)); have n13_ := bm_ hg (blk_lt (bk_ BK436.out)); clear HO_4; clear BK426; clear BK431; clear BK436; clear HB; have HO_4 := n0_; have BK426 := n1_; have BK431 := n2_; have BK436 := n3_; have HB := n4_; have BK443 := n5_; have GW443 := n6_; have GE443 := n7_; have NB426_443 := n8_; have NB443_426 := n9_; have NB431_443 := n10_; have NB443_431 := n11_; have NB436_443 := n12_; have NB443_436 := n13_; clear n0_ n1_ n2_ n3_ n4_ n5_ n6_ n7_ n8_ n9_ n10_ n11_ n12_ n13_; clear hb hbox hg; have hnb39 := NB443_426.out; have hnc39 := NB426_443.out; have hnb40 := NB443_431.out; have hnc40 := NB431_443.out; have hnb41 := NB443_436.out; have hnc41 := NB436_443.out; obtain ⟨hcz42_0, hcz42_1, hcz42_2, hfz42_0, hfz42_1, hfz42_2⟩ := bc3_ BK443.out)))
         go_loopg [14, 15] k2 (fun kq v14 v15 w' => ∃ (x14_3 : Bool) (x15_3 : Int), v14 = .bool x14_3 ∧ v15 = .int .i64 x15_3 ∧ Aside0 (laws_FnFirstAddr.l1 kq t423 t437 x11_2 x14_3 x15_3 t419 t420 t421 t422 t439 t440 t441 = some r) ∧ Aside0 (kq ≤ k2) ∧ Aside0 (Kd.R k29 29 w' w.heap.size (fun k_ => k_ ≠ gb431 ∧ k_ ≠ gb436 ∧ k_ ≠ gb443) (.slice Ao11 t423.length co11) t423) ∧ Aside0 (w'.heap[gb426]? = some (.cells #[.bool t419, .int .i64 t420, .int .i64 t421, .int .i64 t422] 31 (0, 0))) ∧ Aside0 (w'.heap[gb431]? = some (.cells #[.bool t427, .int .i64 t428, .int .i64 t429] 29 (0, 0))) ∧ Aside0 (w'.heap[gb436]? = some (.cells #[.bool t432, .int .i64 t433, .int .i64 t434] 29 (0, 0))) ∧ Aside0 (w'.heap[gb443]? = some (.cells #[.bool t439, .int .i64 t440, .int .i64 t441] 29 (0, 0))) ∧ Aside0 (Below w.heap.size w w'))
         case atStart => exact ⟨(false), (0), (by first | rfl | (simp; done) | (simp [*]; done)), (by first | rfl | (simp; done) | (simp [*]; done)), H', ⟨Nat.le_refl _⟩, ⟨by (with_reducible repeat (first | apply Kd.R_alloc | apply Kd.R_drewN | apply Kd.R_drew)); exact Kd.R_mono (Kd.R_far (p := ⟨gb443, 2, none⟩) (Kd.R_far (p := ⟨gb443, 1, none⟩) (Kd.R_far (p := ⟨gb443, 0, none⟩) (Kd.R_mono HO_4.out (fun k_ hk => (⟨hk, hk.2⟩ : _ ∧ k_ ≠ gb443))) (fun _ hk => hk.2) (.bool t439)) (fun _ hk => hk.2) (.int .i64 t440)) (fun _ hk => hk.2) (.int .i64 t441)) (fun _ hk => ⟨hk.1.1.1, ⟨hk.1.1.2, hk.1.2⟩⟩)⟩, ⟨by refine bk_ ?_; refine blk_far ?_ NB426_443.out _; refine bk_ ?_; refine blk_far ?_ NB426_443.out _; refine bk_ ?_; refine blk_far ?_ NB426_443.out _; refine bk_ ?_; exact BK426.out⟩, ⟨by refine bk_ ?_; refine blk_far ?_ NB431_443.out _; refine bk_ ?_; refine blk_far ?_ NB431_443.out _; refine bk_ ?_; refine blk_far ?_ NB431_443.out _; refine bk_ ?_; exact BK431.out⟩, ⟨by refine bk_ ?_; refine blk_far ?_ NB436_443.out _; refine bk_ ?_; refine blk_far ?_ NB436_443.out _; refine bk_ ?_; refine blk_far ?_ NB436_443.out _; refine bk_ ?_; exact BK436.out⟩, ⟨by refine bk_ ?_; refine blk_put (cs := #[.bool t439, .int .i64 t440, .int .i64 0]) ?_ 2 _ rfl; refine bk_ ?_; refine blk_put (cs := #[.bool t439, .int .i64 0, .int .i64 0]) ?_ 1 _ rfl; refine bk_ ?_; refine blk_put (cs := #[.bool false, .int .i64 0, .int .i64 0]) ?_ 0 _ rfl; refine bk_ ?_; exact BK443.out⟩, ⟨by repeat (first | (with_reducible first | exact HB.out | apply below_alloc | apply pw_below_drewN | apply below_drew1 | refine below_set ?_ GE426.out | refine below_set ?_ GE431.out | refine below_set ?_ GE436.out | refine below_set ?_ GE443.out) | exact HB.out)⟩⟩
         case round =>
          clear H'
          try clear c1
          try clear c2
          try clear p2
          try clear c3
          try clear c4
          try clear c8
          try clear c14
          try clear c19
          try clear c20
          try clear c22
          try clear c22b0
          try clear c22b1
          try clear c22b2
          try clear c23
          try clear c25
          try clear c26
          try clear c27
          try clear c29
          try clear c32
          try clear c32b0
          try clear c34
          try clear c35
          try clear c39
          try clear c40
          try clear c41
          try clear hcz10_0
          try clear hcz10_1
          try clear hcz10_2
          try clear hcz10_3
          try clear hcz15_0
          try clear hcz15_1
          try clear hcz15_2
          try clear hcz16_0
          try clear hcz16_1
          try clear hcz16_2
          try clear hcz16_3
          try clear hcz21_0
          try clear hcz21_1
          try clear hcz21_2
          try clear hcz28_0
          try clear hcz28_1
          try clear hcz28_2
          try clear hcz28_3
          try clear hcz30_0
          try clear hcz30_1
          try clear hcz30_2
          try clear hcz36_0
          try clear hcz36_1
          try clear hcz36_2
          try clear hcz36_3
          try clear hcz42_0
          try clear hcz42_1
          try clear hcz42_2
          try clear hfz10_0
          try clear hfz10_1
          try clear hfz10_2
          try clear hfz10_3
          try clear hfz15_0
          try clear hfz15_1
          try clear hfz15_2
          try clear hfz16_0
          try clear hfz16_1
          try clear hfz16_2
          try clear hfz16_3
          try clear hfz21_0
          try clear hfz21_1
          try clear hfz21_2
          try clear hfz28_0
          try clear hfz28_1
          try clear hfz28_2
          try clear hfz28_3
          try clear hfz30_0
          try clear hfz30_1
          try clear hfz30_2
          try clear hfz36_0
          try clear hfz36_1
          try clear hfz36_2
          try clear hfz36_3
          try clear hfz42_0
          try clear hfz42_1
          try clear hfz42_2
          try clear p2
          obtain ⟨x14_3, x15_3, rfl, rfl, HA, HK3, HO_4, BK426, BK431, BK436, BK443, HB⟩ := hrel
          cases gk with
          | zero => exact absurd HA.out (by simp [laws_FnFirstAddr.l1])
          | succ k3 =>
           have H := HA.out
           clear HA
           simp only [laws_FnFirstAddr.l1] at H
           by_cases c43 : x15_3 < (t423.length : Int)
           ·rw [if_pos c43] at H
            have c43b0 : decide (x15_3 < (t423.length : Int)) = true := decide_eq_true c43
            clear c43
            by_cases c44 : x14_3 = true
            ·subst c44
             have H1 : (laws_FnFirstAddr.l1 k3 t423 t437 x11_2 true (wrap64 (x15_3 + 1)) t419 t420 t421 t422 t439 t440 t441) = some r := by rw [if_pos rfl] at H; exact H
             clear H
             have H := H1
             clear H1
             have H' := Aside0.mk H
             clear H
             go_wp2
             repeat (go_quiet (fail); try go_wp2)
             go_roundg k3
             case measure => have := HJ6.out; have := HK2.out; have := HK3.out; omega
             case rel => exact ⟨(true), (wrap64 (x15_3 + 1)), (by first | rfl | (simp; done) | (simp [*]; done)), (by first | rfl | (simp; done) | (simp [*]; done)), H', ⟨by have := HJ6.out; have := HK2.out; have := HK3.out; omega⟩, ⟨by (with_reducible repeat (first | apply Kd.R_alloc | apply Kd.R_drewN | apply Kd.R_drew)); exact HO_4.out⟩, ⟨by refine bk_ ?_; exact BK426.out⟩, ⟨by refine bk_ ?_; exact BK431.out⟩, ⟨by refine bk_ ?_; exact BK436.out⟩, ⟨by refine bk_ ?_; exact BK443.out⟩, ⟨by repeat (first | (with_reducible first | exact HB.out | apply below_alloc | apply pw_below_drewN | apply below_drew1 | refine below_set ?_ GE426.out | refine below_set ?_ GE431.out | refine below_set ?_ GE436.out | refine below_set ?_ GE443.out) | exact HB.out)⟩⟩
            ·replace c44 := Bool.eq_false_iff.mpr c44
             subst c44
             have H1 : (if 0 ≤ x15_3 then (laws_FnFirstAddr.l1 k3 t423 t437 x11_2 (((rd_T29 t423 x15_3).f0) == t439 && (((rd_T29 t423 x15_3).f1) == t440 && (((rd_T29 t423 x15_3).f2) == t441))) (wrap64 (x15_3 + 1)) t419 t420 t421 t422 t439 t440 t441) else (none)) = some r := by rw [if_neg (show ¬ (false = true) by decide)] at H; exact H
             clear H
             have H := H1
             clear H1
             by_cases c45 : 0 ≤ x15_3
             ·rw [if_pos c45] at H
              have c45b0 : decide (0 ≤ x15_3) = true := decide_eq_true c45
              clear c45
              have H' := Aside0.mk H
              clear H
              have p444 : 0 ≤ (x15_3 : Int) := of_decide_eq_true pa_
              have q444 : x15_3 < (t423.length : Int) := of_decide_eq_true pa_
              obtain ⟨ad444, e444, hx444_0, hx444_1, hx444_2⟩ := at_T29 (Kd.R_reads' HO_4.out).2.2 x15_3 p444 q444
              cases e444
              replace p444 := eq_true p444
              replace q444 := eq_true q444
              have hnb46 := NB443_426.out
              have hnc46 := NB426_443.out
              have hnb47 := NB443_431.out
              have hnc47 := NB431_443.out
              have hnb48 := NB443_436.out
              have hnc48 := NB436_443.out
              obtain ⟨hcz49_0, hcz49_1, hcz49_2, hfz49_0, hfz49_1, hfz49_2⟩ := bc3_ BK443.out
              go_wp2
              repeat (go_quiet (fail); try go_wp2)
              go_roundg k3
              case measure => have := HJ6.out; have := HK2.out; have := HK3.out; omega
              case rel => exact ⟨((((rd_T29 t423 x15_3).f0) == t439 && (((rd_T29 t423 x15_3).f1) == t440 && (((rd_T29 t423 x15_3).f2) == t441)))), (wrap64 (x15_3 + 1)), (by first | rfl | (simp; done) | (simp [*]; done)), (by first | rfl | (simp; done) | (simp [*]; done)), H', ⟨by have := HJ6.out; have := HK2.out; have := HK3.out; omega⟩, ⟨by (with_reducible repeat (first | apply Kd.R_alloc | apply Kd.R_drewN | apply Kd.R_drew)); exact HO_4.out⟩, ⟨by refine bk_ ?_; exact BK426.out⟩, ⟨by refine bk_ ?_; exact BK431.out⟩, ⟨by refine bk_ ?_; exact BK436.out⟩, ⟨by refine bk_ ?_; exact BK443.out⟩, ⟨by repeat (first | (with_reducible first | exact HB.out | apply below_alloc | apply pw_below_drewN | apply below_drew1 | refine below_set ?_ GE426.out | refine below_set ?_ GE431.out | refine below_set ?_ GE436.out | refine below_set ?_ GE443.out) | exact HB.out)⟩⟩
             ·rw [if_neg c45] at H
              exact absurd H (by simp)
           ·rw [if_neg c43] at H
            have c43b0 : decide (x15_3 < (t423.length : Int)) = false := decide_eq_false c43
            clear c43
            by_cases c50 : (x14_3 != (decide (x11_2 < t437))) = true
            ·rw [if_pos c50] at H
             have c50b0 : (x14_3 != (decide (x11_2 < t437))) = true := c50
             (try (have c50b1 : decide (x14_3 = (decide (x11_2 < t437))) = false := by simpa using c50))
             (try (have c50b2 : (x14_3 == (decide (x11_2 < t437))) = false := by simpa using c50))
             (try (have c50b3 : ¬ (x14_3 = (decide (x11_2 < t437))) := by simpa using c50))
             clear c50
             exact absurd ((Option.some.inj H).trans HLAW.out) (by decide)
            ·rw [if_neg c50] at H
             have c50b0 : (x14_3 != (decide (x11_2 < t437))) = false := by simpa using c50
             (try (have c50b1 : decide (x14_3 = (decide (x11_2 < t437))) = true := by simpa using c50))
             (try (have c50b2 : (x14_3 == (decide (x11_2 < t437))) = true := by simpa using c50))
             clear c50
             have H' := Aside0.mk H
             clear H
             go_wp2
             repeat (go_quiet (fail); try go_wp2)
             go_roundg k3
             case measure => have := HJ6.out; have := HK2.out; have := HK3.out; omega
             case rel => exact ⟨(wrap64 (x11_2 + 1)), (by first | rfl | (simp; done) | (simp [*]; done)), H', ⟨by have := HJ6.out; have := HK2.out; have := HK3.out; omega⟩, ⟨by (with_reducible repeat (first | apply Kd.R_alloc | apply Kd.R_drewN | apply Kd.R_drew)); exact Kd.R_mono HO_4.out (fun _ hk => ⟨hk.1, hk.2.1⟩)⟩, ⟨by refine bk_ ?_; exact BK426.out⟩, ⟨by refine bk_ ?_; exact BK431.out⟩, ⟨by refine bk_ ?_; exact BK436.out⟩, ⟨by repeat (first | (with_reducible first | exact HB.out | apply below_alloc | apply pw_below_drewN | apply below_drew1 | refine below_set ?_ GE426.out | refine below_set ?_ GE431.out | refine below_set ?_ GE436.out | refine below_set ?_ GE443.out) | exact HB.out)⟩⟩
        ·rw [if_neg c32] at H
         have c32b0 : decide (x11_2 ≤ t437) = false := decide_eq_false c32
         clear c32
         obtain rfl := Option.some.inj H
         go_wp2
         repeat (go_quiet (fail); try go_wp2)
         go_ret
         exact ⟨pe_, by repeat (first | (with_reducible first | exact HB.out | apply below_alloc | apply pw_below_drewN | apply below_drew1 | refine below_set ?_ GE426.out | refine below_set ?_ GE431.out | refine below_set ?_ GE436.out) | exact HB.out)⟩
     ·replace c25 := Bool.eq_false_iff.mpr c25
      subst c25
      have H1 : (some false) = some r := by rw [if_neg (show ¬ (false = true) by decide)] at H; exact H
      clear H
      have H := H1
      clear H1
      exact absurd ((Option.some.inj H).trans HLAW.out) (by decide)

/-- THE ONE PURE STATEMENT of laws_FnFirstAddr: yours. -/
def laws_FnFirstAddr.Pure : Prop := ∀ (l0 : List Int), l0.length ≤ maxLen → l0.length * 1 ≤ 140737488351232 → (∀ x ∈ l0, (Lit.int .u8 x).wf = true) → ∃ k, laws_FnFirstAddr.f k l0 = some true
theorem laws_FnFirstAddr.walk (P : laws_FnFirstAddr.Pure) (a0 : Option Addr) (len0 cap0 : Nat) (z0 : List Int) (w : World) (w0 : (a0 = none ∧ len0 = 0 ∧ cap0 = 0 ∧ z0 = []) ∨ ∃ x, a0 = some x ∧ len0 ≤ cap0 ∧ cap0 ≤ maxLen ∧ z0.length = cap0 ∧ (∀ i, i < z0.length → w.cell? (x.add i) = some (.int .u8 (z0.getD i 0))) ∧ ∀ n ∈ z0, (Lit.int .u8 n).wf = true) (y0 : len0 * 1 ≤ 140737488351232) :
  Calls Try.prog 8 #[.slice a0 len0 cap0] w fun e w' => e = .returned (.bool true) ∧ Below w.heap.size w w' := by
 obtain ⟨l0, rfl, hr0, hm0, hw0, hc0⟩ := ReadsInt.ofRowC w0
 obtain ⟨k, h⟩ := P l0 hm0 y0 hw0
 refine (laws_FnFirstAddr.calls k _ _ l0 true w (Kd.C_of_reads (d := (0 : Int)) (h1 := fun _ => rfl) hr0) hc0 h).mono ?_
 rintro e w' ⟨rfl, hd⟩
 exact ⟨rfl, hd⟩

end Go.Proofs.Ythakdhdoeejkmaa.QFnFirstAddr
