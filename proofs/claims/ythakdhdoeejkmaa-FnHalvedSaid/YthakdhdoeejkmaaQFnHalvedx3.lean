-- Written by a program of this session (wip/myprint.py); Lean checks it.
import Derived.Test.YthakdhdoeejkmaaQFnHalvedx0
namespace Go.Proofs.Ythakdhdoeejkmaa.QFnHalved
open Go.RowKit Go.Proofs.YthakdhdoeejkmaaW.PrintWords Go.Proofs.YthakdhdoeejkmaaW.PrintLast Go.Proofs.YthakdhdoeejkmaaW.PrintMore
attribute [local go_sem] max2_int min2_int max_two min_two max_three min_three max_four min_four   -- for this text's walks alone
set_option linter.unusedVariables false
set_option linter.unusedSimpArgs false

attribute [local go_sem] isSome_setCell
/-! ### laws_big: function 33 -/
def laws_big.f (l0 : List Int) : Option (Bool) := some (decide ((l0.length : Int) > 1048576))
set_option maxHeartbeats 8000000 in
set_option maxRecDepth 100000 in
theorem laws_big.calls (A0 : Option Addr) (c0 : Nat) (l0 : List Int) (r : Bool) (w : World) (hr0 : Kd.C (Kd.int .u8) w A0 l0.length l0) (hc0 : l0.length ≤ c0) (h : laws_big.f l0 = some r) :
  Calls Try.prog 33 #[.slice A0 l0.length c0] w fun e w' => e = .returned (.bool r) ∧ Drawn0 w w' := by
 have HR0 := Aside0.mk hr0
 have HC0 := Aside0.mk hc0
 clear hr0 hc0
 have H : (some (decide ((l0.length : Int) > 1048576))) = some r := h
 clear h
 obtain rfl := Option.some.inj H
 go_enter Try.func33, Try.ntmps33
 go_wp2
 go_ret
 exact ⟨by first | rfl | (simp; done) | (simp [*]; done), by repeat (first | exact Drawn0.refl _ | apply Drawn0.step)⟩

/-- A state of type 159 at block g of W; what its slices lead to came in by w0. -/
def IsS159 (w0 W : World) (g : Nat) (f0 : List Int) (f1 : Int) (f2 : Int) : Prop := ∃ A0 c0, W.heap[g]? = some (.cells #[.slice A0 f0.length c0, .int .i64 f1, .int .i64 f2] 159 (0, 0)) ∧ w0.heap.size ≤ g ∧ Kd.C (Kd.int .u8) w0 A0 f0.length f0
theorem IsS159.grown {w0 W : World} {g : Nat} {f0 : List Int} {f1 : Int} {f2 : Int} {W1 : World} {row : Option Nat} (h : IsS159 w0 W g f0 f1 f2) (hw : W.grownBy W1 row) (hne : some g ≠ row) : IsS159 w0 W1 g f0 f1 f2 := by
 obtain ⟨A0, c0, hb, hg, hr0⟩ := h
 exact ⟨A0, c0, blk_grown hb hw hne, hg, hr0⟩
theorem IsS159.own_neN {w0 W : World} {g : Nat} {f0 : List Int} {f1 : Int} {f2 : Int} {α : Type} {d : Kd α} {e : Nat} {base : Nat} {ok : Nat → Prop} {v : Value} {xs : List α} (h : IsS159 w0 W g f0 f1 f2) (ho : Kd.N d e W base ok v xs) (ht : e ≠ 159) : some g ≠ v.ownBlock := by
 obtain ⟨A0, c0, hb, hg, hr0⟩ := h
 exact Kd.N_ne ho hb ht
theorem IsS159.fresh {w0 W : World} {g : Nat} {f0 : List Int} {f1 : Int} {f2 : Int} (h : IsS159 w0 W g f0 f1 f2) : ∀ k, W.heap.size ≤ k → k ≠ g := by
 obtain ⟨A0, c0, hb, hg, hr0⟩ := h
 exact Kd.freshB hb
theorem IsS159.kept {w0 W : World} {g : Nat} {f0 : List Int} {f1 : Int} {f2 : Int} {W1 : World} {S : Nat → Prop} (h : IsS159 w0 W g f0 f1 f2) (hk : Kept W W1 S) (hne : ¬ S g) : IsS159 w0 W1 g f0 f1 f2 := by
 obtain ⟨A0, c0, hb, hg, hr0⟩ := h
 exact ⟨A0, c0, blk_kept hb hk hne, hg, hr0⟩
theorem IsS159.below {w0 W : World} {g : Nat} {f0 : List Int} {f1 : Int} {f2 : Int} {W1 : World} (h : IsS159 w0 W g f0 f1 f2) (hw : Below W.heap.size W W1) : IsS159 w0 W1 g f0 f1 f2 := h.grown (grown_of_below hw none) (by simp)
theorem IsS159.alloc {w0 W : World} {g : Nat} {f0 : List Int} {f1 : Int} {f2 : Int} (h : IsS159 w0 W g f0 f1 f2) (o : Obj) : IsS159 w0 (W.alloc o) g f0 f1 f2 := h.below (below_alloc (Below.refl _ _) o)
theorem IsS159.drewN {w0 W : World} {g : Nat} {f0 : List Int} {f1 : Int} {f2 : Int} (h : IsS159 w0 W g f0 f1 f2) (m : Nat) : IsS159 w0 (W.drewN m) g f0 f1 f2 := h
theorem IsS159.drew {w0 W : World} {g : Nat} {f0 : List Int} {f1 : Int} {f2 : Int} (h : IsS159 w0 W g f0 f1 f2) : IsS159 w0 W.drew g f0 f1 f2 := h
theorem IsS159.at_ {w0 W : World} {g : Nat} {f0 : List Int} {f1 : Int} {f2 : Int} {w' : World} {m : Nat} (hq : W.drewN m = w') (h : IsS159 w0 W g f0 f1 f2) : IsS159 w0 w' g f0 f1 f2 := by subst hq; exact IsS159.drewN h m
theorem IsS159.apart {w0 W : World} {g : Nat} {f0 : List Int} {f1 : Int} {f2 : Int} {α : Type} {d : Kd α} {e : Nat} {base : Nat} {ok : Nat → Prop} {v : Value} {xs : List α} (h : IsS159 w0 W g f0 f1 f2) (ho : d.R e W base ok v xs) (ht : ∀ q, q ∈ e :: d.E → q ≠ 159) : d.R e W base (fun k => ok k ∧ k ≠ g) v xs := by
 obtain ⟨A0, c0, hb, hg, hr0⟩ := h
 exact Kd.R_types ho hb ht
theorem IsS159.own_ne {w0 W : World} {g : Nat} {f0 : List Int} {f1 : Int} {f2 : Int} {α : Type} {d : Kd α} {e : Nat} {base : Nat} {ok : Nat → Prop} {v : Value} {xs : List α} (h : IsS159 w0 W g f0 f1 f2) (ho : d.R e W base ok v xs) (ht : e ≠ 159) : some g ≠ v.ownBlock := by
 obtain ⟨A0, c0, hb, hg, hr0⟩ := h
 exact Kd.R_ne ho hb ht
theorem IsS159.apartQ {w0 W : World} {g : Nat} {f0 : List Int} {f1 : Int} {f2 : Int} {α : Type} {d : Kd α} {e : Nat} {base : Nat} {ok : Nat → Prop} {v : Value} {xs : List α} (h : IsS159 w0 W g f0 f1 f2) (ho : d.Q e W base ok v xs) (ht : ∀ q, q ∈ e :: d.E → q ≠ 159) : d.Q e W base (fun k => ok k ∧ k ≠ g) v xs := by
 obtain ⟨A0, c0, hb, hg, hr0⟩ := h
 exact Kd.Q_types ho hb ht
theorem IsS159.own_neQ {w0 W : World} {g : Nat} {f0 : List Int} {f1 : Int} {f2 : Int} {α : Type} {d : Kd α} {e : Nat} {base : Nat} {ok : Nat → Prop} {v : Value} {xs : List α} (h : IsS159 w0 W g f0 f1 f2) (ho : d.Q e W base ok v xs) (ht : e ≠ 159) : some g ≠ v.ownBlock := by
 obtain ⟨A0, c0, hb, hg, hr0⟩ := h
 exact Kd.Q_ne ho hb ht
theorem IsS159.apartS {w0 W : World} {g : Nat} {f0 : List Int} {f1 : Int} {f2 : Int} {α : Type} {d : Kd α} {e : Nat} {base : Nat} {ok : Nat → Prop} {v : Value} {xs : List α} (h : IsS159 w0 W g f0 f1 f2) (ho : d.S e W base ok v xs) (ht : ∀ q, q ∈ e :: d.E → q ≠ 159) : d.S e W base (fun k => ok k ∧ k ≠ g) v xs := by
 obtain ⟨A0, c0, hb, hg, hr0⟩ := h
 exact Kd.S_types ho hb ht
theorem IsS159.own_neS {w0 W : World} {g : Nat} {f0 : List Int} {f1 : Int} {f2 : Int} {α : Type} {d : Kd α} {e : Nat} {base : Nat} {ok : Nat → Prop} {v : Value} {xs : List α} (h : IsS159 w0 W g f0 f1 f2) (ho : d.S e W base ok v xs) (ht : e ≠ 159) : some g ≠ v.ownBlock := by
 obtain ⟨A0, c0, hb, hg, hr0⟩ := h
 exact Kd.S_ne ho hb ht
theorem IsS159.lt {w0 W : World} {g : Nat} {f0 : List Int} {f1 : Int} {f2 : Int} (h : IsS159 w0 W g f0 f1 f2) : g < W.heap.size := by
 obtain ⟨A0, c0, hb, hg, hr0⟩ := h
 exact blk_lt hb
theorem IsS159.ge {w0 W : World} {g : Nat} {f0 : List Int} {f1 : Int} {f2 : Int} (h : IsS159 w0 W g f0 f1 f2) : w0.heap.size ≤ g := by
 obtain ⟨A0, c0, hb, hg, hr0⟩ := h
 exact hg
theorem IsS159.ne_blk {w0 W : World} {g : Nat} {f0 : List Int} {f1 : Int} {f2 : Int} {a : Nat} {cs : Array Value} {t : TypeId} {fr : Nat × Nat} (h : IsS159 w0 W g f0 f1 f2) (hb2 : W.heap[a]? = some (.cells cs t fr)) (ht : t ≠ 159) : g ≠ a := by
 obtain ⟨A0, c0, hb, hg, hr0⟩ := h
 rintro rfl
 rw [hb] at hb2
 injection hb2 with hb2
 injection hb2 with _ ht2
 exact ht ht2.symm
theorem IsS159.far {w0 W : World} {g : Nat} {f0 : List Int} {f1 : Int} {f2 : Int} {p : Addr} (h : IsS159 w0 W g f0 f1 f2) (hne : g ≠ p.block) (u : Value) : IsS159 w0 (W.setCell p u) g f0 f1 f2 := by
 obtain ⟨A0, c0, hb, hg, hr0⟩ := h
 exact ⟨A0, c0, blk_far hb hne u, hg, hr0⟩
theorem cellS159_0 {W : World} {g : Nat} {A0 : Option Addr} {c0 : Nat} {f0 : List Int} {f1 : Int} {f2 : Int} (h : W.heap[g]? = some (.cells #[.slice A0 f0.length c0, .int .i64 f1, .int .i64 f2] 159 (0, 0))) : W.cell? ⟨g, 0, none⟩ = some (.slice A0 f0.length c0) := (blk_cell h 0).trans rfl
theorem cellS159_1 {W : World} {g : Nat} {A0 : Option Addr} {c0 : Nat} {f0 : List Int} {f1 : Int} {f2 : Int} (h : W.heap[g]? = some (.cells #[.slice A0 f0.length c0, .int .i64 f1, .int .i64 f2] 159 (0, 0))) : W.cell? ⟨g, 1, none⟩ = some (.int .i64 f1) := (blk_cell h 1).trans rfl
theorem IsS159.set_1 {w0 W : World} {g : Nat} {f0 : List Int} {f1 : Int} {f2 : Int} (h : IsS159 w0 W g f0 f1 f2) (x : Int) : IsS159 w0 (W.setCell ⟨g, 1, none⟩ (.int .i64 x)) g f0 x f2 := by
 obtain ⟨A0, c0, hb, hg, hr0⟩ := h
 exact ⟨A0, c0, by simpa using blk_set hb 1 (.int .i64 x), hg, hr0⟩
theorem cellS159_2 {W : World} {g : Nat} {A0 : Option Addr} {c0 : Nat} {f0 : List Int} {f1 : Int} {f2 : Int} (h : W.heap[g]? = some (.cells #[.slice A0 f0.length c0, .int .i64 f1, .int .i64 f2] 159 (0, 0))) : W.cell? ⟨g, 2, none⟩ = some (.int .i64 f2) := (blk_cell h 2).trans rfl
theorem IsS159.set_2 {w0 W : World} {g : Nat} {f0 : List Int} {f1 : Int} {f2 : Int} (h : IsS159 w0 W g f0 f1 f2) (x : Int) : IsS159 w0 (W.setCell ⟨g, 2, none⟩ (.int .i64 x)) g f0 f1 x := by
 obtain ⟨A0, c0, hb, hg, hr0⟩ := h
 exact ⟨A0, c0, by simpa using blk_set hb 2 (.int .i64 x), hg, hr0⟩
theorem IsS159.new (w0 W : World) (A0 : Option Addr) (c0 : Nat) (f0 : List Int) (f1 : Int) (f2 : Int) (hB : Below w0.heap.size w0 W) (hr0 : Kd.C (Kd.int .u8) w0 A0 f0.length f0) : IsS159 w0 (W.alloc (.cells #[.slice A0 f0.length c0, .int .i64 f1, .int .i64 f2] 159)) W.heap.size f0 f1 f2 := ⟨A0, c0, by simpa using heap_alloc_new W _, hB.size, hr0⟩

/-! ### spec_l1New: function 87 -/
def spec_l1New.l0 : Nat → List Int → Int → Int → Option (List Int × Int × Int)
 | 0, _, _, _ => none
 | k + 1, x0, x3, x4 => if x4 < (x0.length : Int) then (if x4 < 4000 then (if 0 ≤ x4 then (spec_l1New.l0 k x0 (Go.bits .and .i64 (wrap64 ((wrap64 ((wrap64 (x3 * 137)) + (wrap64 (rd x0 x4)))) + 11)) 1073741823) (wrap64 (x4 + 1))) else (none)) else (some (x0, 0, x3))) else (some (x0, 0, x3))
def spec_l1New.f (k : Nat) (l0 : List Int) : Option (List Int × Int × Int) := spec_l1New.l0 k l0 (wrap64 (134134 + (l0.length : Int))) 0
theorem spec_l1New.mono_l : ∀ k, (∀ y0 y1 y2, LeO (spec_l1New.l0 k y0 y1 y2) (spec_l1New.l0 (k + 1) y0 y1 y2))
 | 0 => fun _ _ _ r h => by simp [spec_l1New.l0] at h
 | k + 1 => by
  have ih0 := spec_l1New.mono_l k
  ·intro y0 y1 y2
   unfold spec_l1New.l0
   repeat' first
   | (with_reducible exact ih0 _ _ _)
   | (with_reducible exact LeO.refl _)
   | (with_reducible exact LeO.none _)
   | (with_reducible refine LeO.ite ?_ ?_)
   | (with_reducible refine LeO.bind ?_ (fun _ => ?_))
   | exact ih0 _ _ _
   | exact LeO.none _
   | refine LeO.ite ?_ ?_
   | refine LeO.bind ?_ (fun _ => ?_)
theorem spec_l1New.mono : ∀ a0 k, LeO (spec_l1New.f k a0) (spec_l1New.f (k + 1) a0) := by
 intro a0 k
 have ih0 := spec_l1New.mono_l k
 unfold spec_l1New.f
 repeat' first
   | (with_reducible exact ih0 _ _ _)
   | (with_reducible exact LeO.refl _)
   | (with_reducible exact LeO.none _)
   | (with_reducible refine LeO.ite ?_ ?_)
   | (with_reducible refine LeO.bind ?_ (fun _ => ?_))
   | exact ih0 _ _ _
   | exact LeO.none _
   | refine LeO.ite ?_ ?_
   | refine LeO.bind ?_ (fun _ => ?_)
set_option maxHeartbeats 8000000 in
set_option maxRecDepth 100000 in
theorem spec_l1New.calls (k : Nat) (A0 : Option Addr) (c0 : Nat) (l0 : List Int) (r1 : List Int) (r2 : Int) (r3 : Int) (w0 w : World) (hB : Below w0.heap.size w0 w) (hr0 : Kd.C (Kd.int .u8) w0 A0 l0.length l0) (hc0 : l0.length ≤ c0) (h : spec_l1New.f k l0 = some (r1, r2, r3)) :
  Calls Try.prog 87 #[.slice A0 l0.length c0] w fun e w' => ∃ g_ : Nat, e = .returned (.pointer (some ⟨g_, 0, none⟩)) ∧ IsS159 w0 w' g_ r1 r2 r3 ∧ Below w0.heap.size w0 w' ∧ Below w.heap.size w w' := by
 have hu159 := Try.underlying159
 have HR0 := Aside0.mk hr0
 have HC0 := Aside0.mk hc0
 clear hr0 hc0
 have HBW := Aside0.mk (Below.refl w.heap.size w)
 have HW0 := Aside0.mk hB.size
 have HB := Aside0.mk hB
 clear hB
 have H : (spec_l1New.l0 k l0 (wrap64 (134134 + (l0.length : Int))) 0) = some (r1, r2, r3) := h
 clear h
 have H' := Aside0.mk H
 clear H
 go_enter Try.func87, Try.ntmps87
 go_wp2
 go_loopg [3, 4] k (fun kq v3 v4 w' => ∃ (x3_1 : Int) (x4_1 : Int), v3 = .int .i64 x3_1 ∧ v4 = .int .i64 x4_1 ∧ Aside0 (spec_l1New.l0 kq l0 x3_1 x4_1 = some (r1, r2, r3)) ∧ Aside0 (kq ≤ k) ∧ Aside0 (Below w0.heap.size w0 w') ∧ Aside0 (Below w.heap.size w w'))
 case atStart => exact ⟨(wrap64 (134134 + (l0.length : Int))), (0), (by first | rfl | (simp; done) | (simp [*]; done)), (by first | rfl | (simp; done) | (simp [*]; done)), H', ⟨Nat.le_refl _⟩, ⟨hb_ HB.out⟩, ⟨by repeat (first | (with_reducible first | exact HBW.out | apply below_alloc | apply pw_below_drewN | apply below_drew1) | exact HBW.out)⟩⟩
 case round =>
  clear H'
  obtain ⟨x3_1, x4_1, rfl, rfl, HA, HK1, HB, HBW⟩ := hrel
  cases gk with
  | zero => exact absurd HA.out (by simp [spec_l1New.l0])
  | succ k1 =>
   have H := HA.out
   clear HA
   simp only [spec_l1New.l0] at H
   by_cases c2 : x4_1 < (l0.length : Int)
   ·rw [if_pos c2] at H
    have c2b0 : decide (x4_1 < (l0.length : Int)) = true := decide_eq_true c2
    clear c2
    by_cases c3 : x4_1 < 4000
    ·rw [if_pos c3] at H
     have c3b0 : decide (x4_1 < 4000) = true := decide_eq_true c3
     clear c3
     by_cases c4 : 0 ≤ x4_1
     ·rw [if_pos c4] at H
      have c4b0 : decide (0 ≤ x4_1) = true := decide_eq_true c4
      clear c4
      have H' := Aside0.mk H
      clear H
      have p101 : 0 ≤ (x4_1 : Int) := of_decide_eq_true pa_
      have q101 : x4_1 < (l0.length : Int) := of_decide_eq_true pa_
      obtain ⟨ad101, e101, hx101_0⟩ := Kd.at_int HR0.out x4_1 p101 q101
      cases e101
      replace hx101_0 := pw_cell_below HB.out hx101_0
      replace p101 := eq_true p101
      replace q101 := eq_true q101
      go_wp2
      go_roundg k1
      case measure => have := HK1.out; omega
      case rel => exact ⟨(Go.bits .and .i64 (wrap64 ((wrap64 ((wrap64 (x3_1 * 137)) + (wrap64 (rd l0 x4_1)))) + 11)) 1073741823), (wrap64 (x4_1 + 1)), (by first | rfl | (simp; done) | (simp [*]; done)), (by first | rfl | (simp; done) | (simp [*]; done)), H', ⟨by have := HK1.out; omega⟩, ⟨hb_ HB.out⟩, ⟨by repeat (first | (with_reducible first | exact HBW.out | apply below_alloc | apply pw_below_drewN | apply below_drew1) | exact HBW.out)⟩⟩
     ·rw [if_neg c4] at H
      exact absurd H (by simp)
    ·rw [if_neg c3] at H
     have c3b0 : decide (x4_1 < 4000) = false := decide_eq_false c3
     clear c3
     simp only [Option.some.injEq, Prod.mk.injEq] at H
     obtain ⟨rfl, rfl, rfl⟩ := H
     go_wp2_with (first | ((with_reducible refine gate_dst (N := 31) rfl ?_); refine box_event ?hg (N := 31) ?hd (cs := #[.slice A0 l0.length c0, .int .i64 0, .int .i64 x3_1]) (t := 159) ?hr ?_; (case hd => rfl); (case hg => rfl); (case hr => first | (go_simp; done) | (go_simp; rfl)); intro gb102 hg w5 hbox hb; have n0_ := Aside0.mk (below_step HBW.out hb); have n1_ := Aside0.mk (below_step (hb_ HB.out) hb); have n2_ := Aside0.mk (hbox); have n3_ := Aside0.mk ((by rw [hg]; exact (below_size (by repeat (first | (with_reducible first | exact HBW.out | apply below_alloc | apply pw_below_drewN | apply below_drew1) | exact HBW.out))) : w.heap.size ≤ gb102)); have n4_ := Aside0.mk ((Nat.le_trans HW0.out (by rw [hg]; exact (below_size (by repeat (first | (with_reducible first | exact HBW.out | apply below_alloc | apply pw_below_drewN | apply below_drew1) | exact HBW.out))) : w.heap.size ≤ gb102) : w0.heap.size ≤ gb102)); clear HBW; clear HB; have HBW := n0_; have HB := n1_; have BK102 := n2_; have GW102 := n3_; have GE102 := n4_; clear n0_ n1_ n2_ n3_ n4_; clear hb hbox hg))
     go_ret
     exact ⟨_, rfl, (show IsS159 w0 _ gb102 l0 0 x3_1 from ⟨_, _, by refine bk_ ?_; exact BK102.out, GE102.out, HR0.out⟩), hc_ HB.out GE102.out, by repeat (first | (with_reducible first | exact HBW.out | apply below_alloc | apply pw_below_drewN | apply below_drew1 | refine below_set ?_ GW102.out) | exact HBW.out)⟩
   ·rw [if_neg c2] at H
    have c2b0 : decide (x4_1 < (l0.length : Int)) = false := decide_eq_false c2
    clear c2
    simp only [Option.some.injEq, Prod.mk.injEq] at H
    obtain ⟨rfl, rfl, rfl⟩ := H
    go_wp2_with (first | ((with_reducible refine gate_dst (N := 31) rfl ?_); refine box_event ?hg (N := 31) ?hd (cs := #[.slice A0 l0.length c0, .int .i64 0, .int .i64 x3_1]) (t := 159) ?hr ?_; (case hd => rfl); (case hg => rfl); (case hr => first | (go_simp; done) | (go_simp; rfl)); intro gb103 hg w6 hbox hb; have n0_ := Aside0.mk (below_step HBW.out hb); have n1_ := Aside0.mk (below_step (hb_ HB.out) hb); have n2_ := Aside0.mk (hbox); have n3_ := Aside0.mk ((by rw [hg]; exact (below_size (by repeat (first | (with_reducible first | exact HBW.out | apply below_alloc | apply pw_below_drewN | apply below_drew1) | exact HBW.out))) : w.heap.size ≤ gb103)); have n4_ := Aside0.mk ((Nat.le_trans HW0.out (by rw [hg]; exact (below_size (by repeat (first | (with_reducible first | exact HBW.out | apply below_alloc | apply pw_below_drewN | apply below_drew1) | exact HBW.out))) : w.heap.size ≤ gb103) : w0.heap.size ≤ gb103)); clear HBW; clear HB; have HBW := n0_; have HB := n1_; have BK103 := n2_; have GW103 := n3_; have GE103 := n4_; clear n0_ n1_ n2_ n3_ n4_; clear hb hbox hg))
    go_ret
    exact ⟨_, rfl, (show IsS159 w0 _ gb103 l0 0 x3_1 from ⟨_, _, by refine bk_ ?_; exact BK103.out, GE103.out, HR0.out⟩), hc_ HB.out GE103.out, by repeat (first | (with_reducible first | exact HBW.out | apply below_alloc | apply pw_below_drewN | apply below_drew1 | refine below_set ?_ GW103.out) | exact HBW.out)⟩

/-! ### spec_l1Byte: function 156 -/
def spec_l1Byte.f (s0_0 : List Int) (s0_1 : Int) (s0_2 : Int) : Option (Int × Int × Int) := if s0_1 < (s0_0.length : Int) then (if 0 ≤ s0_1 then (some (Go.bits .and .i64 (wrap64 ((Go.bits .and .i64 (Go.bits .xor .i64 ((wrap64 ((wrap64 (s0_2 * 6364136223846793005)) + 1442695040888963407)) / 8589934592) ((wrap64 ((wrap64 (s0_2 * 6364136223846793005)) + 1442695040888963407)) / 140737488355328)) 255) + (wrap64 (rd s0_0 s0_1)))) 255, wrap64 (s0_1 + 1), wrap64 ((wrap64 (s0_2 * 6364136223846793005)) + 1442695040888963407))) else (none)) else (some (Go.bits .and .i64 (Go.bits .xor .i64 ((wrap64 ((wrap64 (s0_2 * 6364136223846793005)) + 1442695040888963407)) / 8589934592) ((wrap64 ((wrap64 (s0_2 * 6364136223846793005)) + 1442695040888963407)) / 140737488355328)) 255, s0_1, wrap64 ((wrap64 (s0_2 * 6364136223846793005)) + 1442695040888963407)))
set_option maxHeartbeats 8000000 in
set_option maxRecDepth 100000 in
theorem spec_l1Byte.calls (g : Nat) (s0_0 : List Int) (s0_1 : Int) (s0_2 : Int) (r1 : Int) (r2 : Int) (r3 : Int) (w0 w : World) (hI : IsS159 w0 w g s0_0 s0_1 s0_2) (hB : Below w0.heap.size w0 w) (h : spec_l1Byte.f s0_0 s0_1 s0_2 = some (r1, r2, r3)) :
  Calls Try.prog 156 #[.pointer (some ⟨g, 0, none⟩)] w fun e w' => e = .returned (.int .i64 r1) ∧ IsS159 w0 w' g s0_0 r2 r3 ∧ Below w0.heap.size w0 w' ∧ KeepBut w w' g none := by
 have HI0 := Aside0.mk hI
 have HK := Aside0.mk (KeepBut.refl w g none)
 have HL := Aside0.mk hB.size
 clear hI
 have HW0 := Aside0.mk hB.size
 have HB := Aside0.mk hB
 clear hB
 have H : (if s0_1 < (s0_0.length : Int) then (if 0 ≤ s0_1 then (some (Go.bits .and .i64 (wrap64 ((Go.bits .and .i64 (Go.bits .xor .i64 ((wrap64 ((wrap64 (s0_2 * 6364136223846793005)) + 1442695040888963407)) / 8589934592) ((wrap64 ((wrap64 (s0_2 * 6364136223846793005)) + 1442695040888963407)) / 140737488355328)) 255) + (wrap64 (rd s0_0 s0_1)))) 255, wrap64 (s0_1 + 1), wrap64 ((wrap64 (s0_2 * 6364136223846793005)) + 1442695040888963407))) else (none)) else (some (Go.bits .and .i64 (Go.bits .xor .i64 ((wrap64 ((wrap64 (s0_2 * 6364136223846793005)) + 1442695040888963407)) / 8589934592) ((wrap64 ((wrap64 (s0_2 * 6364136223846793005)) + 1442695040888963407)) / 140737488355328)) 255, s0_1, wrap64 ((wrap64 (s0_2 * 6364136223846793005)) + 1442695040888963407)))) = some (r1, r2, r3) := h
 clear h
 by_cases c2 : s0_1 < (s0_0.length : Int)
 ·rw [if_pos c2] at H
  have c2b0 : decide (s0_1 < (s0_0.length : Int)) = true := decide_eq_true c2
  clear c2
  by_cases c3 : 0 ≤ s0_1
  ·rw [if_pos c3] at H
   have c3b0 : decide (0 ≤ s0_1) = true := decide_eq_true c3
   clear c3
   simp only [Option.some.injEq, Prod.mk.injEq] at H
   obtain ⟨rfl, rfl, rfl⟩ := H
   obtain ⟨ASz4_0, cSz4_0, HGz4, hgz4, HSz4_0⟩ := HI0.out
   have hcz4_0 := cellS159_0 HGz4
   have hcz4_1 := cellS159_1 HGz4
   have hcz4_2 := cellS159_2 HGz4
   have hfz4_1 := blk_frozen HGz4 1
   have hfz4_2 := blk_frozen HGz4 2
   clear HGz4 hgz4
   have p104 : 0 ≤ (s0_1 : Int) := of_decide_eq_true pa_
   have q104 : s0_1 < (s0_0.length : Int) := of_decide_eq_true pa_
   obtain ⟨ad104, e104, hx104_0⟩ := Kd.at_int HSz4_0 s0_1 p104 q104
   cases e104
   have hn104_0 : ad104.block ≠ g := Nat.ne_of_lt (Nat.lt_of_lt_of_le (by have := World.block_lt_of_cell? _ _ hx104_0; first | rwa [add_block] at this | exact this) (IsS159.ge HI0.out))
   replace hx104_0 := pw_cell_below HB.out hx104_0
   replace hx104_0 := (cell_far (p := ⟨g, 2, none⟩) (by first | (rw [add_block]; exact hn104_0) | (show (Addr.add _ _).block ≠ _; rw [add_block]; exact hn104_0) | exact hn104_0) (.int .i64 (wrap64 ((wrap64 (s0_2 * 6364136223846793005)) + 1442695040888963407)))).trans hx104_0
   (try have hy104_0 := fun (n_ : Nat) => (show (((w.drewN n_).setCell ⟨g, 2, none⟩ (.int .i64 (wrap64 ((wrap64 (s0_2 * 6364136223846793005)) + 1442695040888963407))))).cell? _ = some _ from hx104_0))
   clear hn104_0
   replace p104 := eq_true p104
   replace q104 := eq_true q104
   go_enter Try.func156, Try.ntmps156
   go_wp2
   repeat (go_quiet (fail); try go_wp2)
   go_ret
   exact ⟨pe_, by repeat (first | (with_reducible first | exact HI0.out | apply IsS159.alloc | apply IsS159.drewN | apply IsS159.drew | apply IsS159.set_1 | apply IsS159.set_2) | exact HI0.out), by repeat (first | (with_reducible first | exact HB.out | apply below_alloc | apply pw_below_drewN | apply below_drew1 | refine below_set ?_ (IsS159.ge HI0.out)) | exact HB.out), by repeat (first | (with_reducible first | exact HK.out | apply KeepBut.set_ | apply keep_drewN | apply keep_drew | apply keep_alloc) | exact HK.out)⟩
  ·rw [if_neg c3] at H
   exact absurd H (by simp)
 ·rw [if_neg c2] at H
  have c2b0 : decide (s0_1 < (s0_0.length : Int)) = false := decide_eq_false c2
  clear c2
  simp only [Option.some.injEq, Prod.mk.injEq] at H
  obtain ⟨rfl, rfl, rfl⟩ := H
  obtain ⟨ASz5_0, cSz5_0, HGz5, hgz5, HSz5_0⟩ := HI0.out
  have hcz5_0 := cellS159_0 HGz5
  have hcz5_1 := cellS159_1 HGz5
  have hcz5_2 := cellS159_2 HGz5
  have hfz5_1 := blk_frozen HGz5 1
  have hfz5_2 := blk_frozen HGz5 2
  clear HGz5 hgz5
  go_enter Try.func156, Try.ntmps156
  go_wp2
  repeat (go_quiet (fail); try go_wp2)
  go_ret
  exact ⟨pe_, by repeat (first | (with_reducible first | exact HI0.out | apply IsS159.alloc | apply IsS159.drewN | apply IsS159.drew | apply IsS159.set_1 | apply IsS159.set_2) | exact HI0.out), by repeat (first | (with_reducible first | exact HB.out | apply below_alloc | apply pw_below_drewN | apply below_drew1 | refine below_set ?_ (IsS159.ge HI0.out)) | exact HB.out), by repeat (first | (with_reducible first | exact HK.out | apply KeepBut.set_ | apply keep_drewN | apply keep_drew | apply keep_alloc) | exact HK.out)⟩

/-! ### spec_l1Below: function 104 -/
def spec_l1Below.f (s0_0 : List Int) (s0_1 : Int) (s0_2 : Int) (a1 : Int) : Option (Int × Int × Int) := if a1 ≤ 0 then (some (0, s0_1, s0_2)) else (if a1 ≤ 256 then ((spec_l1Byte.f s0_0 s0_1 s0_2).bind fun bt105 => (if a1 = 0 then (none) else (some (Int.tmod bt105.1 a1, bt105.2.1, bt105.2.2)))) else ((spec_l1Byte.f s0_0 s0_1 s0_2).bind fun bt108 => ((spec_l1Byte.f s0_0 bt108.2.1 bt108.2.2).bind fun bt111 => ((spec_l1Byte.f s0_0 bt111.2.1 bt111.2.2).bind fun bt114 => (if a1 = 0 then (none) else (some (Int.tmod (wrap64 ((wrap64 ((wrap64 (bt108.1 * 65536)) + (wrap64 (bt111.1 * 256)))) + bt114.1)) a1, bt114.2.1, bt114.2.2)))))))
set_option maxHeartbeats 8000000 in
set_option maxRecDepth 100000 in
theorem spec_l1Below.calls (g : Nat) (s0_0 : List Int) (s0_1 : Int) (s0_2 : Int) (a1 : Int) (r1 : Int) (r2 : Int) (r3 : Int) (w0 w : World) (hI : IsS159 w0 w g s0_0 s0_1 s0_2) (hB : Below w0.heap.size w0 w) (h : spec_l1Below.f s0_0 s0_1 s0_2 a1 = some (r1, r2, r3)) :
  Calls Try.prog 104 #[.pointer (some ⟨g, 0, none⟩), .int .i64 a1] w fun e w' => e = .returned (.int .i64 r1) ∧ IsS159 w0 w' g s0_0 r2 r3 ∧ Below w0.heap.size w0 w' ∧ KeepBut w w' g none := by
 have HI0 := Aside0.mk hI
 have HK := Aside0.mk (KeepBut.refl w g none)
 have HL := Aside0.mk hB.size
 clear hI
 have HW0 := Aside0.mk hB.size
 have HB := Aside0.mk hB
 clear hB
 have H : (if a1 ≤ 0 then (some (0, s0_1, s0_2)) else (if a1 ≤ 256 then ((spec_l1Byte.f s0_0 s0_1 s0_2).bind fun bt105 => (if a1 = 0 then (none) else (some (Int.tmod bt105.1 a1, bt105.2.1, bt105.2.2)))) else ((spec_l1Byte.f s0_0 s0_1 s0_2).bind fun bt108 => ((spec_l1Byte.f s0_0 bt108.2.1 bt108.2.2).bind fun bt111 => ((spec_l1Byte.f s0_0 bt111.2.1 bt111.2.2).bind fun bt114 => (if a1 = 0 then (none) else (some (Int.tmod (wrap64 ((wrap64 ((wrap64 (bt108.1 * 65536)) + (wrap64 (bt111.1 * 256)))) + bt114.1)) a1, bt114.2.1, bt114.2.2)))))))) = some (r1, r2, r3) := h
 clear h
 by_cases c3 : a1 ≤ 0
 ·rw [if_pos c3] at H
  have c3b0 : decide (a1 ≤ 0) = true := decide_eq_true c3
  clear c3
  simp only [Option.some.injEq, Prod.mk.injEq] at H
  obtain ⟨rfl, rfl, rfl⟩ := H
  go_enter Try.func104, Try.ntmps104
  go_wp2
  go_ret
  exact ⟨pe_, by repeat (first | (with_reducible first | exact HI0.out | apply IsS159.alloc | apply IsS159.drewN | apply IsS159.drew | apply IsS159.set_1 | apply IsS159.set_2) | exact HI0.out), by repeat (first | (with_reducible first | exact HB.out | apply below_alloc | apply pw_below_drewN | apply below_drew1 | refine below_set ?_ (IsS159.ge HI0.out)) | exact HB.out), by repeat (first | (with_reducible first | exact HK.out | apply KeepBut.set_ | apply keep_drewN | apply keep_drew | apply keep_alloc) | exact HK.out)⟩
 ·rw [if_neg c3] at H
  have c3b0 : decide (a1 ≤ 0) = false := decide_eq_false c3
  clear c3
  by_cases c4 : a1 ≤ 256
  ·rw [if_pos c4] at H
   have c4b0 : decide (a1 ≤ 256) = true := decide_eq_true c4
   clear c4
   replace H := Option.bind_eq_some_iff.mp H
   obtain ⟨⟨t105, t106, t107⟩, A50, H⟩ := H
   replace H : (if a1 = 0 then (none) else (some (Int.tmod t105 a1, t106, t107))) = some (r1, r2, r3) := H
   have A5 := Aside0.mk A50
   clear A50
   by_cases c6 : a1 = 0
   ·rw [if_pos c6] at H
    exact absurd H (by simp)
   ·rw [if_neg c6] at H
    have c6b0 : (a1 == 0) = false := beq_eq_false_iff_ne.mpr c6
    have c6b1 : (a1 != 0) = true := bne_iff_ne.mpr c6
    simp only [Option.some.injEq, Prod.mk.injEq] at H
    obtain ⟨rfl, rfl, rfl⟩ := H
    go_enter Try.func104, Try.ntmps104
    go_wp2_with (first | ((with_reducible refine gate_callee (f := 156) rfl ?_); refine goesL_ (some 13) rfl rfl Try.func156 (by kernel_rfl) rfl #[.pointer (some ⟨g, 0, none⟩)] rfl al_ ?_; (with_reducible refine (spec_l1Byte.calls g s0_0 s0_1 s0_2 t105 t106 t107 w0 _ ?side1 ?side2 A5.out).mono ?_); (case side1 => repeat (first | (with_reducible first | exact HI0.out | apply IsS159.alloc | apply IsS159.drewN | apply IsS159.drew | apply IsS159.set_1 | apply IsS159.set_2) | exact HI0.out)); (case side2 => repeat (first | (with_reducible first | exact HB.out | apply below_alloc | apply pw_below_drewN | apply below_drew1 | refine below_set ?_ (IsS159.ge HI0.out)) | exact HB.out)); rintro e w7 ⟨rfl, hi, hb, hk⟩; refine ⟨_, rfl, ?_⟩; have n0_ := Aside0.mk (KeepBut.trans (by repeat (first | (with_reducible first | exact HK.out | apply KeepBut.set_ | apply keep_drewN | apply keep_drew | apply keep_alloc) | exact HK.out)) hk (.inl rfl)); have n1_ := Aside0.mk (hb); have n2_ := Aside0.mk (hi); clear HK; clear HB; clear HI0; have HK := n0_; have HB := n1_; have HI0 := n2_; clear n0_ n1_ n2_; (try clear hb); (try clear hb2); (try clear hk); (try clear hi)))
    go_ret
    exact ⟨pe_, by repeat (first | (with_reducible first | exact HI0.out | apply IsS159.alloc | apply IsS159.drewN | apply IsS159.drew | apply IsS159.set_1 | apply IsS159.set_2) | exact HI0.out), by repeat (first | (with_reducible first | exact HB.out | apply below_alloc | apply pw_below_drewN | apply below_drew1 | refine below_set ?_ (IsS159.ge HI0.out)) | exact HB.out), by repeat (first | (with_reducible first | exact HK.out | apply KeepBut.set_ | apply keep_drewN | apply keep_drew | apply keep_alloc) | exact HK.out)⟩
  ·rw [if_neg c4] at H
   have c4b0 : decide (a1 ≤ 256) = false := decide_eq_false c4
   clear c4
   replace H := Option.bind_eq_some_iff.mp H
   obtain ⟨⟨t108, t109, t110⟩, A80, H⟩ := H
   replace H : ((spec_l1Byte.f s0_0 t109 t110).bind fun bt111 => ((spec_l1Byte.f s0_0 bt111.2.1 bt111.2.2).bind fun bt114 => (if a1 = 0 then (none) else (some (Int.tmod (wrap64 ((wrap64 ((wrap64 (t108 * 65536)) + (wrap64 (bt111.1 * 256)))) + bt114.1)) a1, bt114.2.1, bt114.2.2))))) = some (r1, r2, r3) := H
   have A8 := Aside0.mk A80
   clear A80
   replace H := Option.bind_eq_some_iff.mp H
   obtain ⟨⟨t111, t112, t113⟩, A90, H⟩ := H
   replace H : ((spec_l1Byte.f s0_0 t112 t113).bind fun bt114 => (if a1 = 0 then (none) else (some (Int.tmod (wrap64 ((wrap64 ((wrap64 (t108 * 65536)) + (wrap64 (t111 * 256)))) + bt114.1)) a1, bt114.2.1, bt114.2.2)))) = some (r1, r2, r3) := H
   have A9 := Aside0.mk A90
   clear A90
   replace H := Option.bind_eq_some_iff.mp H
   obtain ⟨⟨t114, t115, t116⟩, A100, H⟩ := H
   replace H : (if a1 = 0 then (none) else (some (Int.tmod (wrap64 ((wrap64 ((wrap64 (t108 * 65536)) + (wrap64 (t111 * 256)))) + t114)) a1, t115, t116))) = some (r1, r2, r3) := H
   have A10 := Aside0.mk A100
   clear A100
   by_cases c11 : a1 = 0
   ·rw [if_pos c11] at H
    exact absurd H (by simp)
   ·rw [if_neg c11] at H
    have c11b0 : (a1 == 0) = false := beq_eq_false_iff_ne.mpr c11
    have c11b1 : (a1 != 0) = true := bne_iff_ne.mpr c11
    simp only [Option.some.injEq, Prod.mk.injEq] at H
    obtain ⟨rfl, rfl, rfl⟩ := H
    go_enter Try.func104, Try.ntmps104
    go_wp2_with (first | ((with_reducible refine gate_callee (f := 156) rfl ?_); refine goesL_ (some 17) rfl rfl Try.func156 (by kernel_rfl) rfl #[.pointer (some ⟨g, 0, none⟩)] rfl al_ ?_; (with_reducible refine (spec_l1Byte.calls g s0_0 s0_1 s0_2 t108 t109 t110 w0 _ ?side1 ?side2 A8.out).mono ?_); (case side1 => repeat (first | (with_reducible first | exact HI0.out | apply IsS159.alloc | apply IsS159.drewN | apply IsS159.drew | apply IsS159.set_1 | apply IsS159.set_2) | exact HI0.out)); (case side2 => repeat (first | (with_reducible first | exact HB.out | apply below_alloc | apply pw_below_drewN | apply below_drew1 | refine below_set ?_ (IsS159.ge HI0.out)) | exact HB.out)); rintro e w12 ⟨rfl, hi, hb, hk⟩; refine ⟨_, rfl, ?_⟩; have n0_ := Aside0.mk (KeepBut.trans (by repeat (first | (with_reducible first | exact HK.out | apply KeepBut.set_ | apply keep_drewN | apply keep_drew | apply keep_alloc) | exact HK.out)) hk (.inl rfl)); have n1_ := Aside0.mk (hb); have n2_ := Aside0.mk (hi); clear HK; clear HB; clear HI0; have HK := n0_; have HB := n1_; have HI0 := n2_; clear n0_ n1_ n2_; (try clear hb); (try clear hb2); (try clear hk); (try clear hi)) | ((with_reducible refine gate_callee (f := 156) rfl ?_); refine goesL_ (some 19) rfl rfl Try.func156 (by kernel_rfl) rfl #[.pointer (some ⟨g, 0, none⟩)] rfl al_ ?_; (with_reducible refine (spec_l1Byte.calls g s0_0 t109 t110 t111 t112 t113 w0 _ ?side1 ?side2 A9.out).mono ?_); (case side1 => repeat (first | (with_reducible first | exact HI0.out | apply IsS159.alloc | apply IsS159.drewN | apply IsS159.drew | apply IsS159.set_1 | apply IsS159.set_2) | exact HI0.out)); (case side2 => repeat (first | (with_reducible first | exact HB.out | apply below_alloc | apply pw_below_drewN | apply below_drew1 | refine below_set ?_ (IsS159.ge HI0.out)) | exact HB.out)); rintro e w13 ⟨rfl, hi, hb, hk⟩; refine ⟨_, rfl, ?_⟩; have n0_ := Aside0.mk (KeepBut.trans (by repeat (first | (with_reducible first | exact HK.out | apply KeepBut.set_ | apply keep_drewN | apply keep_drew | apply keep_alloc) | exact HK.out)) hk (.inl rfl)); have n1_ := Aside0.mk (hb); have n2_ := Aside0.mk (hi); clear HK; clear HB; clear HI0; have HK := n0_; have HB := n1_; have HI0 := n2_; clear n0_ n1_ n2_; (try clear hb); (try clear hb2); (try clear hk); (try clear hi)) | ((with_reducible refine gate_callee (f := 156) rfl ?_); refine goesL_ (some 21) rfl rfl Try.func156 (by kernel_rfl) rfl #[.pointer (some ⟨g, 0, none⟩)] rfl al_ ?_; (with_reducible refine (spec_l1Byte.calls g s0_0 t112 t113 t114 t115 t116 w0 _ ?side1 ?side2 A10.out).mono ?_); (case side1 => repeat (first | (with_reducible first | exact HI0.out | apply IsS159.alloc | apply IsS159.drewN | apply IsS159.drew | apply IsS159.set_1 | apply IsS159.set_2) | exact HI0.out)); (case side2 => repeat (first | (with_reducible first | exact HB.out | apply below_alloc | apply pw_below_drewN | apply below_drew1 | refine below_set ?_ (IsS159.ge HI0.out)) | exact HB.out)); rintro e w14 ⟨rfl, hi, hb, hk⟩; refine ⟨_, rfl, ?_⟩; have n0_ := Aside0.mk (KeepBut.trans (by repeat (first | (with_reducible first | exact HK.out | apply KeepBut.set_ | apply keep_drewN | apply keep_drew | apply keep_alloc) | exact HK.out)) hk (.inl rfl)); have n1_ := Aside0.mk (hb); have n2_ := Aside0.mk (hi); clear HK; clear HB; clear HI0; have HK := n0_; have HB := n1_; have HI0 := n2_; clear n0_ n1_ n2_; (try clear hb); (try clear hb2); (try clear hk); (try clear hi)))
    go_ret
    exact ⟨pe_, by repeat (first | (with_reducible first | exact HI0.out | apply IsS159.alloc | apply IsS159.drewN | apply IsS159.drew | apply IsS159.set_1 | apply IsS159.set_2) | exact HI0.out), by repeat (first | (with_reducible first | exact HB.out | apply below_alloc | apply pw_below_drewN | apply below_drew1 | refine below_set ?_ (IsS159.ge HI0.out)) | exact HB.out), by repeat (first | (with_reducible first | exact HK.out | apply KeepBut.set_ | apply keep_drewN | apply keep_drew | apply keep_alloc) | exact HK.out)⟩

/-! ### spec_l1Int: function 151 -/
def spec_l1Int.f (s0_0 : List Int) (s0_1 : Int) (s0_2 : Int) (l1 : List Int) : Option (Int × Int × Int) := (spec_l1Below.f s0_0 s0_1 s0_2 (l1.length : Int)).bind fun bt117 => (if 0 ≤ bt117.1 then (if bt117.1 < (l1.length : Int) then (some (rd l1 bt117.1, bt117.2.1, bt117.2.2)) else (none)) else (none))
set_option maxHeartbeats 8000000 in
set_option maxRecDepth 100000 in
theorem spec_l1Int.calls (g : Nat) (s0_0 : List Int) (s0_1 : Int) (s0_2 : Int) (A1 : Option Addr) (c1 : Nat) (l1 : List Int) (r1 : Int) (r2 : Int) (r3 : Int) (w0 w : World) (hI : IsS159 w0 w g s0_0 s0_1 s0_2) (hB : Below w0.heap.size w0 w) (hr1 : Kd.C (Kd.int .i64) w A1 l1.length l1) (hc1 : l1.length ≤ c1) (hf1 : ∀ ad, A1 = some ad → 0 < l1.length → ad.block ≠ g) (h : spec_l1Int.f s0_0 s0_1 s0_2 l1 = some (r1, r2, r3)) :
  Calls Try.prog 151 #[.pointer (some ⟨g, 0, none⟩), .slice A1 l1.length c1] w fun e w' => e = .returned (.int .i64 r1) ∧ IsS159 w0 w' g s0_0 r2 r3 ∧ Below w0.heap.size w0 w' ∧ KeepBut w w' g none := by
 have HR1 := Aside0.mk hr1
 have HC1 := Aside0.mk hc1
 clear hr1 hc1
 have HI0 := Aside0.mk hI
 have HK := Aside0.mk (KeepBut.refl w g none)
 have HL := Aside0.mk hB.size
 clear hI
 have HW0 := Aside0.mk hB.size
 have HB := Aside0.mk hB
 clear hB
 have H : ((spec_l1Below.f s0_0 s0_1 s0_2 (l1.length : Int)).bind fun bt117 => (if 0 ≤ bt117.1 then (if bt117.1 < (l1.length : Int) then (some (rd l1 bt117.1, bt117.2.1, bt117.2.2)) else (none)) else (none))) = some (r1, r2, r3) := h
 clear h
 replace H := Option.bind_eq_some_iff.mp H
 obtain ⟨⟨t117, t118, t119⟩, A30, H⟩ := H
 replace H : (if 0 ≤ t117 then (if t117 < (l1.length : Int) then (some (rd l1 t117, t118, t119)) else (none)) else (none)) = some (r1, r2, r3) := H
 have A3 := Aside0.mk A30
 clear A30
 by_cases c4 : 0 ≤ t117
 ·rw [if_pos c4] at H
  have c4b0 : decide (0 ≤ t117) = true := decide_eq_true c4
  clear c4
  by_cases c5 : t117 < (l1.length : Int)
  ·rw [if_pos c5] at H
   have c5b0 : decide (t117 < (l1.length : Int)) = true := decide_eq_true c5
   clear c5
   simp only [Option.some.injEq, Prod.mk.injEq] at H
   obtain ⟨rfl, rfl, rfl⟩ := H
   go_enter Try.func151, Try.ntmps151
   go_wp2_with (first | ((with_reducible refine gate_callee (f := 104) rfl ?_); refine goesL_ (some 9) rfl rfl Try.func104 (by kernel_rfl) rfl #[.pointer (some ⟨g, 0, none⟩), .int .i64 (l1.length : Int)] rfl al_ ?_; (with_reducible refine (spec_l1Below.calls g s0_0 s0_1 s0_2 (l1.length : Int) t117 t118 t119 w0 _ ?side1 ?side2 A3.out).mono ?_); (case side1 => repeat (first | (with_reducible first | exact HI0.out | apply IsS159.alloc | apply IsS159.drewN | apply IsS159.drew | apply IsS159.set_1 | apply IsS159.set_2) | exact HI0.out)); (case side2 => repeat (first | (with_reducible first | exact HB.out | apply below_alloc | apply pw_below_drewN | apply below_drew1 | refine below_set ?_ (IsS159.ge HI0.out)) | exact HB.out)); rintro e w6 ⟨rfl, hi, hb, hk⟩; refine ⟨_, rfl, ?_⟩; have n0_ := Aside0.mk (KeepBut.trans (by repeat (first | (with_reducible first | exact HK.out | apply KeepBut.set_ | apply keep_drewN | apply keep_drew | apply keep_alloc) | exact HK.out)) hk (.inl rfl)); have n1_ := Aside0.mk (hb); have n2_ := Aside0.mk (hi); clear HK; clear HB; clear HI0; have HK := n0_; have HB := n1_; have HI0 := n2_; clear n0_ n1_ n2_; (try clear hb); (try clear hb2); (try clear hk); (try clear hi); have p120 : 0 ≤ (t117 : Int) := of_decide_eq_true pa_; have q120 : t117 < (l1.length : Int) := of_decide_eq_true pa_; obtain ⟨ad120, e120, hx120_0⟩ := Kd.at_int HR1.out t117 p120 q120; cases e120; replace hx120_0 := keep_cell HK.out hx120_0 (by first | (rw [add_block]; exact hf1 _ rfl (by omega)) | exact hf1 _ rfl (by omega) | exact hf1 ad120 rfl (by omega)); replace p120 := eq_true p120; replace q120 := eq_true q120))
   go_ret
   exact ⟨pe_, by repeat (first | (with_reducible first | exact HI0.out | apply IsS159.alloc | apply IsS159.drewN | apply IsS159.drew | apply IsS159.set_1 | apply IsS159.set_2) | exact HI0.out), by repeat (first | (with_reducible first | exact HB.out | apply below_alloc | apply pw_below_drewN | apply below_drew1 | refine below_set ?_ (IsS159.ge HI0.out)) | exact HB.out), by repeat (first | (with_reducible first | exact HK.out | apply KeepBut.set_ | apply keep_drewN | apply keep_drew | apply keep_alloc) | exact HK.out)⟩
  ·rw [if_neg c5] at H
   exact absurd H (by simp)
 ·rw [if_neg c4] at H
  exact absurd H (by simp)

/-! ### spec_l1Once: function 106 -/
def spec_l1Once.f (s0_0 : List Int) (s0_1 : Int) (s0_2 : Int) (a1 : Int) : Option (Bool × Int × Int) := (spec_l1Below.f s0_0 s0_1 s0_2 a1).bind fun bt121 => (some ((bt121.1 == 0), bt121.2.1, bt121.2.2))
set_option maxHeartbeats 8000000 in
set_option maxRecDepth 100000 in
theorem spec_l1Once.calls (g : Nat) (s0_0 : List Int) (s0_1 : Int) (s0_2 : Int) (a1 : Int) (r1 : Bool) (r2 : Int) (r3 : Int) (w0 w : World) (hI : IsS159 w0 w g s0_0 s0_1 s0_2) (hB : Below w0.heap.size w0 w) (h : spec_l1Once.f s0_0 s0_1 s0_2 a1 = some (r1, r2, r3)) :
  Calls Try.prog 106 #[.pointer (some ⟨g, 0, none⟩), .int .i64 a1] w fun e w' => e = .returned (.bool r1) ∧ IsS159 w0 w' g s0_0 r2 r3 ∧ Below w0.heap.size w0 w' ∧ KeepBut w w' g none := by
 have HI0 := Aside0.mk hI
 have HK := Aside0.mk (KeepBut.refl w g none)
 have HL := Aside0.mk hB.size
 clear hI
 have HW0 := Aside0.mk hB.size
 have HB := Aside0.mk hB
 clear hB
 have H : ((spec_l1Below.f s0_0 s0_1 s0_2 a1).bind fun bt121 => (some ((bt121.1 == 0), bt121.2.1, bt121.2.2))) = some (r1, r2, r3) := h
 clear h
 replace H := Option.bind_eq_some_iff.mp H
 obtain ⟨⟨t121, t122, t123⟩, A30, H⟩ := H
 replace H : (some ((t121 == 0), t122, t123)) = some (r1, r2, r3) := H
 have A3 := Aside0.mk A30
 clear A30
 simp only [Option.some.injEq, Prod.mk.injEq] at H
 obtain ⟨rfl, rfl, rfl⟩ := H
 go_enter Try.func106, Try.ntmps106
 go_wp2_with (first | ((with_reducible refine gate_callee (f := 104) rfl ?_); refine goesL_ (some 7) rfl rfl Try.func104 (by kernel_rfl) rfl #[.pointer (some ⟨g, 0, none⟩), .int .i64 a1] rfl al_ ?_; (with_reducible refine (spec_l1Below.calls g s0_0 s0_1 s0_2 a1 t121 t122 t123 w0 _ ?side1 ?side2 A3.out).mono ?_); (case side1 => repeat (first | (with_reducible first | exact HI0.out | apply IsS159.alloc | apply IsS159.drewN | apply IsS159.drew | apply IsS159.set_1 | apply IsS159.set_2) | exact HI0.out)); (case side2 => repeat (first | (with_reducible first | exact HB.out | apply below_alloc | apply pw_below_drewN | apply below_drew1 | refine below_set ?_ (IsS159.ge HI0.out)) | exact HB.out)); rintro e w4 ⟨rfl, hi, hb, hk⟩; refine ⟨_, rfl, ?_⟩; have n0_ := Aside0.mk (KeepBut.trans (by repeat (first | (with_reducible first | exact HK.out | apply KeepBut.set_ | apply keep_drewN | apply keep_drew | apply keep_alloc) | exact HK.out)) hk (.inl rfl)); have n1_ := Aside0.mk (hb); have n2_ := Aside0.mk (hi); clear HK; clear HB; clear HI0; have HK := n0_; have HB := n1_; have HI0 := n2_; clear n0_ n1_ n2_; (try clear hb); (try clear hb2); (try clear hk); (try clear hi)))
 go_ret
 exact ⟨pe_, by repeat (first | (with_reducible first | exact HI0.out | apply IsS159.alloc | apply IsS159.drewN | apply IsS159.drew | apply IsS159.set_1 | apply IsS159.set_2) | exact HI0.out), by repeat (first | (with_reducible first | exact HB.out | apply below_alloc | apply pw_below_drewN | apply below_drew1 | refine below_set ?_ (IsS159.ge HI0.out)) | exact HB.out), by repeat (first | (with_reducible first | exact HK.out | apply KeepBut.set_ | apply keep_drewN | apply keep_drew | apply keep_alloc) | exact HK.out)⟩

/-! ### spec_l1Odd: function 179 -/
def spec_l1Odd.f (s0_0 : List Int) (s0_1 : Int) (s0_2 : Int) : Option (Int × Int × Int) := (spec_l1Int.f s0_0 s0_1 s0_2 (([(-1), 0, 1, 2, 255, 256, 65535, 2147483647, 2147483648, 4294967295, 4294967296, (-2147483648), 9223372036854775807, (-9223372036854775808)] : List Int))).bind fun bt127 => (some (bt127.1, bt127.2.1, bt127.2.2))
set_option maxHeartbeats 8000000 in
set_option maxRecDepth 100000 in
theorem spec_l1Odd.calls (g : Nat) (s0_0 : List Int) (s0_1 : Int) (s0_2 : Int) (r1 : Int) (r2 : Int) (r3 : Int) (w0 w : World) (hI : IsS159 w0 w g s0_0 s0_1 s0_2) (hB : Below w0.heap.size w0 w) (h : spec_l1Odd.f s0_0 s0_1 s0_2 = some (r1, r2, r3)) :
  Calls Try.prog 179 #[.pointer (some ⟨g, 0, none⟩)] w fun e w' => e = .returned (.int .i64 r1) ∧ IsS159 w0 w' g s0_0 r2 r3 ∧ Below w0.heap.size w0 w' ∧ KeepBut w w' g none := by
 have HI0 := Aside0.mk hI
 have HK := Aside0.mk (KeepBut.refl w g none)
 have HL := Aside0.mk hB.size
 clear hI
 have HW0 := Aside0.mk hB.size
 have HB := Aside0.mk hB
 clear hB
 have H : ((spec_l1Int.f s0_0 s0_1 s0_2 (([(-1), 0, 1, 2, 255, 256, 65535, 2147483647, 2147483648, 4294967295, 4294967296, (-2147483648), 9223372036854775807, (-9223372036854775808)] : List Int))).bind fun bt127 => (some (bt127.1, bt127.2.1, bt127.2.2))) = some (r1, r2, r3) := h
 clear h
 obtain ⟨y124, hy124⟩ : ∃ y_ : List Int, y_ = (([(-1), 0, 1, 2, 255, 256, 65535, 2147483647, 2147483648, 4294967295, 4294967296, (-2147483648), 9223372036854775807, (-9223372036854775808)] : List Int)) := ⟨_, rfl⟩
 replace H : ((spec_l1Int.f s0_0 s0_1 s0_2 y124).bind fun bt127 => (some (bt127.1, bt127.2.1, bt127.2.2))) = some (r1, r2, r3) := by first | (rw [hy124]; with_reducible exact H) | (have H2_ := (Option.bind_some _ _).symm.trans H; rw [hy124]; with_reducible exact H2_) | (have H2_ := (Option.bind_some _ _).symm.trans H; with_reducible exact H2_) | with_reducible exact H | (rw [hy124]; exact H) | exact H
 have Ny124 := Aside0.mk hy124
 clear hy124
 replace H := Option.bind_eq_some_iff.mp H
 obtain ⟨⟨t127, t128, t129⟩, A20, H⟩ := H
 replace H : (some (t127, t128, t129)) = some (r1, r2, r3) := H
 have A2 := Aside0.mk A20
 clear A20
 simp only [Option.some.injEq, Prod.mk.injEq] at H
 obtain ⟨rfl, rfl, rfl⟩ := H
 go_enter Try.func179, Try.ntmps179
 go_wp2_with (first | ((with_reducible refine gate_dst (N := 4) rfl ?_); refine Kd.R_lit (Kd.int .i64) _ 3 ?hg (N := 4) ?hd (xs := ([(-1), 0, 1, 2, 255, 256, 65535, 2147483647, 2147483648, 4294967295, 4294967296, (-2147483648), 9223372036854775807, (-9223372036854775808)] : List Int)) (inner := [.int .i64 (-1), .int .i64 0, .int .i64 1, .int .i64 2, .int .i64 255, .int .i64 256, .int .i64 65535, .int .i64 2147483647, .int .i64 2147483648, .int .i64 4294967295, .int .i64 4294967296, .int .i64 (-2147483648), .int .i64 9223372036854775807, .int .i64 (-9223372036854775808)]) (ok := fun _ => True) (okp := fun _ => True) ?hr ?hp (fun _ hk => hk) trivial (Below.refl _ _) (Nat.le_refl _) (by simp) ?_; (case hd => rfl); (case hg => rfl); (case hr => first | (go_simp; done) | (go_simp; rfl)); (case hp => exact (Reps.one (show Kd.M (Kd.int .i64) _ _ _ (-1) [.int .i64 (-1)] from rfl) (Reps.one (show Kd.M (Kd.int .i64) _ _ _ 0 [.int .i64 0] from rfl) (Reps.one (show Kd.M (Kd.int .i64) _ _ _ 1 [.int .i64 1] from rfl) (Reps.one (show Kd.M (Kd.int .i64) _ _ _ 2 [.int .i64 2] from rfl) (Reps.one (show Kd.M (Kd.int .i64) _ _ _ 255 [.int .i64 255] from rfl) (Reps.one (show Kd.M (Kd.int .i64) _ _ _ 256 [.int .i64 256] from rfl) (Reps.one (show Kd.M (Kd.int .i64) _ _ _ 65535 [.int .i64 65535] from rfl) (Reps.one (show Kd.M (Kd.int .i64) _ _ _ 2147483647 [.int .i64 2147483647] from rfl) (Reps.one (show Kd.M (Kd.int .i64) _ _ _ 2147483648 [.int .i64 2147483648] from rfl) (Reps.one (show Kd.M (Kd.int .i64) _ _ _ 4294967295 [.int .i64 4294967295] from rfl) (Reps.one (show Kd.M (Kd.int .i64) _ _ _ 4294967296 [.int .i64 4294967296] from rfl) (Reps.one (show Kd.M (Kd.int .i64) _ _ _ (-2147483648) [.int .i64 (-2147483648)] from rfl) (Reps.one (show Kd.M (Kd.int .i64) _ _ _ 9223372036854775807 [.int .i64 9223372036854775807] from rfl) (Reps.one (show Kd.M (Kd.int .i64) _ _ _ (-9223372036854775808) [.int .i64 (-9223372036854775808)] from rfl) (Reps.none _ _)))))))))))))))); intro v125 w3 ho4 hb hg_ hnew_; clear hg_ hnew_; (first | rw [← Ny124.out] at ho4 | (simp only [Int.reduceToNat] at ho4; rw [← Ny124.out] at ho4)); have n0_ := Aside0.mk (Kd.R_lower ho4 (keep_size (w := w) (g := g) (row := none) (by repeat (first | (with_reducible first | exact HK.out | apply KeepBut.set_ | apply keep_drewN | apply keep_drew | apply keep_alloc) | exact HK.out)))); have n1_ := Aside0.mk (IsS159.below (by repeat (first | (with_reducible first | exact HI0.out | apply IsS159.alloc | apply IsS159.drewN | apply IsS159.drew | apply IsS159.set_1 | apply IsS159.set_2) | exact HI0.out)) hb); have n2_ := Aside0.mk (KeepBut.trans (by repeat (first | (with_reducible first | exact HK.out | apply KeepBut.set_ | apply keep_drewN | apply keep_drew | apply keep_alloc) | exact HK.out)) (KeepBut.of_below hb g none) (.inl rfl)); have n3_ := Aside0.mk (below_step (by repeat (first | (with_reducible first | exact HB.out | apply below_alloc | apply pw_below_drewN | apply below_drew1 | refine below_set ?_ (IsS159.ge HI0.out)) | exact HB.out)) hb); clear HI0; clear HK; clear HB; have HO126 := n0_; have HI0 := n1_; have HK := n2_; have HB := n3_; clear n0_ n1_ n2_ n3_; clear hb ho4; obtain ⟨Ao5, co5, eo5⟩ := Kd.R_slice HO126.out; subst eo5) | ((with_reducible refine gate_callee (f := 151) rfl ?_); refine goesL_ (some 5) rfl rfl Try.func151 (by kernel_rfl) rfl #[.pointer (some ⟨g, 0, none⟩), .slice Ao5 y124.length co5] rfl al_ ?_; (with_reducible refine (spec_l1Int.calls g s0_0 s0_1 s0_2 _ _ y124 t127 t128 t129 w0 _ ?side1 ?side2 ?side3 ?side4 ?side5 A2.out).mono ?_); (case side1 => repeat (first | (with_reducible first | exact HI0.out | apply IsS159.alloc | apply IsS159.drewN | apply IsS159.drew | apply IsS159.set_1 | apply IsS159.set_2) | exact HI0.out)); (case side2 => repeat (first | (with_reducible first | exact HB.out | apply below_alloc | apply pw_below_drewN | apply below_drew1 | refine below_set ?_ (IsS159.ge HI0.out)) | exact HB.out)); (case side3 => repeat (first | exact (Kd.R_reads' HO126.out).2.2 | (with_reducible refine Kd.C_alloc ?_ _) | (with_reducible refine Kd.C_drewN ?_ _) | (with_reducible refine Kd.C_drew ?_))); (case side4 => exact (Kd.R_reads' HO126.out).2.1); (case side5 => exact far_slice (IsS159.own_ne HI0.out HO126.out (by decide))); rintro e w6 ⟨rfl, hi, hb, hk⟩; refine ⟨_, rfl, ?_⟩; have n0_ := Aside0.mk (Kd.R_mono (Kd.R_keep (IsS159.apart (show IsS159 w0 _ g s0_0 s0_1 s0_2 from by repeat (first | (with_reducible first | exact HI0.out | apply IsS159.alloc | apply IsS159.drewN | apply IsS159.drew | apply IsS159.set_1 | apply IsS159.set_2) | exact HI0.out)) (by (with_reducible repeat (first | apply Kd.R_alloc | apply Kd.R_drewN | apply Kd.R_drew)); exact HO126.out) (by decide)) hk (fun _ h => h.2)) (fun _ h => h.1)); have n1_ := Aside0.mk (KeepBut.trans (by repeat (first | (with_reducible first | exact HK.out | apply KeepBut.set_ | apply keep_drewN | apply keep_drew | apply keep_alloc) | exact HK.out)) hk (.inl rfl)); have n2_ := Aside0.mk (hb); have n3_ := Aside0.mk (hi); clear HO126; clear HK; clear HB; clear HI0; have HO126 := n0_; have HK := n1_; have HB := n2_; have HI0 := n3_; clear n0_ n1_ n2_ n3_; (try clear hb); (try clear hb2); (try clear hk); (try clear hi)))
 go_ret
 exact ⟨pe_, by repeat (first | (with_reducible first | exact HI0.out | apply IsS159.alloc | apply IsS159.drewN | apply IsS159.drew | apply IsS159.set_1 | apply IsS159.set_2) | exact HI0.out), by repeat (first | (with_reducible first | exact HB.out | apply below_alloc | apply pw_below_drewN | apply below_drew1 | refine below_set ?_ (IsS159.ge HI0.out)) | exact HB.out), by repeat (first | (with_reducible first | exact HK.out | apply KeepBut.set_ | apply keep_drewN | apply keep_drew | apply keep_alloc) | exact HK.out)⟩

/-! ### spec_l1Draw: function 177 -/
def spec_l1Draw.f (s0_0 : List Int) (s0_1 : Int) (s0_2 : Int) : Option (Bool × Int × Int × Int × Int) := (spec_l1Once.f s0_0 s0_1 s0_2 2).bind fun bt131 => (if bt131.1 = true then ((spec_l1Below.f s0_0 bt131.2.1 bt131.2.2 300).bind fun bt134 => ((spec_l1Below.f s0_0 bt134.2.1 bt134.2.2 65536).bind fun bt137 => ((spec_l1Below.f s0_0 bt137.2.1 bt137.2.2 20).bind fun bt140 => ((spec_l1Int.f s0_0 bt140.2.1 bt140.2.2 (([0, 1, 4294967295, 167772160, wrap64 (167772160 + bt134.1), wrap64 (3232235520 + bt137.1), wrap64 (4294967295 - bt140.1)] : List Int))).bind fun bt146 => (some (false, 0, bt146.1, bt146.2.1, bt146.2.2)))))) else ((spec_l1Odd.f s0_0 bt131.2.1 bt131.2.2).bind fun bt149 => ((spec_l1Int.f s0_0 bt149.2.1 bt149.2.2 (([0, 2306139568115548160, (-108086391056891904), (-1), 1, 65536, bt149.1] : List Int))).bind fun bt155 => ((spec_l1Below.f s0_0 bt155.2.1 bt155.2.2 70000).bind fun bt158 => ((spec_l1Odd.f s0_0 bt158.2.1 bt158.2.2).bind fun bt161 => ((spec_l1Int.f s0_0 bt161.2.1 bt161.2.2 (([0, 1, (-1), 65536, 4294967296, bt158.1, bt161.1] : List Int))).bind fun bt167 => (some (true, bt155.1, bt167.1, bt167.2.1, bt167.2.2))))))))
set_option maxHeartbeats 8000000 in
set_option maxRecDepth 100000 in
theorem spec_l1Draw.calls (g : Nat) (s0_0 : List Int) (s0_1 : Int) (s0_2 : Int) (r1 : Bool) (r2 : Int) (r3 : Int) (r4 : Int) (r5 : Int) (w0 w : World) (hI : IsS159 w0 w g s0_0 s0_1 s0_2) (hB : Below w0.heap.size w0 w) (h : spec_l1Draw.f s0_0 s0_1 s0_2 = some (r1, r2, r3, r4, r5)) :
  Calls Try.prog 177 #[.pointer (some ⟨g, 0, none⟩)] w fun e w' => e = .returned (.agg #[.bool r1, .int .i64 r2, .int .i64 r3]) ∧ IsS159 w0 w' g s0_0 r4 r5 ∧ Below w0.heap.size w0 w' ∧ KeepBut w w' g none := by
 have hu29 := Try.underlying29
 have HI0 := Aside0.mk hI
 have HK := Aside0.mk (KeepBut.refl w g none)
 have HL := Aside0.mk hB.size
 clear hI
 have HW0 := Aside0.mk hB.size
 have HB := Aside0.mk hB
 clear hB
 have H : ((spec_l1Once.f s0_0 s0_1 s0_2 2).bind fun bt131 => (if bt131.1 = true then ((spec_l1Below.f s0_0 bt131.2.1 bt131.2.2 300).bind fun bt134 => ((spec_l1Below.f s0_0 bt134.2.1 bt134.2.2 65536).bind fun bt137 => ((spec_l1Below.f s0_0 bt137.2.1 bt137.2.2 20).bind fun bt140 => ((spec_l1Int.f s0_0 bt140.2.1 bt140.2.2 (([0, 1, 4294967295, 167772160, wrap64 (167772160 + bt134.1), wrap64 (3232235520 + bt137.1), wrap64 (4294967295 - bt140.1)] : List Int))).bind fun bt146 => (some (false, 0, bt146.1, bt146.2.1, bt146.2.2)))))) else ((spec_l1Odd.f s0_0 bt131.2.1 bt131.2.2).bind fun bt149 => ((spec_l1Int.f s0_0 bt149.2.1 bt149.2.2 (([0, 2306139568115548160, (-108086391056891904), (-1), 1, 65536, bt149.1] : List Int))).bind fun bt155 => ((spec_l1Below.f s0_0 bt155.2.1 bt155.2.2 70000).bind fun bt158 => ((spec_l1Odd.f s0_0 bt158.2.1 bt158.2.2).bind fun bt161 => ((spec_l1Int.f s0_0 bt161.2.1 bt161.2.2 (([0, 1, (-1), 65536, 4294967296, bt158.1, bt161.1] : List Int))).bind fun bt167 => (some (true, bt155.1, bt167.1, bt167.2.1, bt167.2.2))))))))) = some (r1, r2, r3, r4, r5) := h
 clear h
 replace H := Option.bind_eq_some_iff.mp H
 obtain ⟨⟨t131, t132, t133⟩, A20, H⟩ := H
 replace H : (if t131 = true then ((spec_l1Below.f s0_0 t132 t133 300).bind fun bt134 => ((spec_l1Below.f s0_0 bt134.2.1 bt134.2.2 65536).bind fun bt137 => ((spec_l1Below.f s0_0 bt137.2.1 bt137.2.2 20).bind fun bt140 => ((spec_l1Int.f s0_0 bt140.2.1 bt140.2.2 (([0, 1, 4294967295, 167772160, wrap64 (167772160 + bt134.1), wrap64 (3232235520 + bt137.1), wrap64 (4294967295 - bt140.1)] : List Int))).bind fun bt146 => (some (false, 0, bt146.1, bt146.2.1, bt146.2.2)))))) else ((spec_l1Odd.f s0_0 t132 t133).bind fun bt149 => ((spec_l1Int.f s0_0 bt149.2.1 bt149.2.2 (([0, 2306139568115548160, (-108086391056891904), (-1), 1, 65536, bt149.1] : List Int))).bind fun bt155 => ((spec_l1Below.f s0_0 bt155.2.1 bt155.2.2 70000).bind fun bt158 => ((spec_l1Odd.f s0_0 bt158.2.1 bt158.2.2).bind fun bt161 => ((spec_l1Int.f s0_0 bt161.2.1 bt161.2.2 (([0, 1, (-1), 65536, 4294967296, bt158.1, bt161.1] : List Int))).bind fun bt167 => (some (true, bt155.1, bt167.1, bt167.2.1, bt167.2.2)))))))) = some (r1, r2, r3, r4, r5) := H
 have A2 := Aside0.mk A20
 clear A20
 by_cases c3 : t131 = true
 ·subst c3
  have H1 : ((spec_l1Below.f s0_0 t132 t133 300).bind fun bt134 => ((spec_l1Below.f s0_0 bt134.2.1 bt134.2.2 65536).bind fun bt137 => ((spec_l1Below.f s0_0 bt137.2.1 bt137.2.2 20).bind fun bt140 => ((spec_l1Int.f s0_0 bt140.2.1 bt140.2.2 (([0, 1, 4294967295, 167772160, wrap64 (167772160 + bt134.1), wrap64 (3232235520 + bt137.1), wrap64 (4294967295 - bt140.1)] : List Int))).bind fun bt146 => (some (false, 0, bt146.1, bt146.2.1, bt146.2.2)))))) = some (r1, r2, r3, r4, r5) := by rw [if_pos rfl] at H; exact H
  clear H
  have H := H1
  clear H1
  replace H := Option.bind_eq_some_iff.mp H
  obtain ⟨⟨t134, t135, t136⟩, A40, H⟩ := H
  replace H : ((spec_l1Below.f s0_0 t135 t136 65536).bind fun bt137 => ((spec_l1Below.f s0_0 bt137.2.1 bt137.2.2 20).bind fun bt140 => ((spec_l1Int.f s0_0 bt140.2.1 bt140.2.2 (([0, 1, 4294967295, 167772160, wrap64 (167772160 + t134), wrap64 (3232235520 + bt137.1), wrap64 (4294967295 - bt140.1)] : List Int))).bind fun bt146 => (some (false, 0, bt146.1, bt146.2.1, bt146.2.2))))) = some (r1, r2, r3, r4, r5) := H
  have A4 := Aside0.mk A40
  clear A40
  replace H := Option.bind_eq_some_iff.mp H
  obtain ⟨⟨t137, t138, t139⟩, A50, H⟩ := H
  replace H : ((spec_l1Below.f s0_0 t138 t139 20).bind fun bt140 => ((spec_l1Int.f s0_0 bt140.2.1 bt140.2.2 (([0, 1, 4294967295, 167772160, wrap64 (167772160 + t134), wrap64 (3232235520 + t137), wrap64 (4294967295 - bt140.1)] : List Int))).bind fun bt146 => (some (false, 0, bt146.1, bt146.2.1, bt146.2.2)))) = some (r1, r2, r3, r4, r5) := H
  have A5 := Aside0.mk A50
  clear A50
  replace H := Option.bind_eq_some_iff.mp H
  obtain ⟨⟨t140, t141, t142⟩, A60, H⟩ := H
  replace H : ((spec_l1Int.f s0_0 t141 t142 (([0, 1, 4294967295, 167772160, wrap64 (167772160 + t134), wrap64 (3232235520 + t137), wrap64 (4294967295 - t140)] : List Int))).bind fun bt146 => (some (false, 0, bt146.1, bt146.2.1, bt146.2.2))) = some (r1, r2, r3, r4, r5) := H
  have A6 := Aside0.mk A60
  clear A60
  obtain ⟨y143, hy143⟩ : ∃ y_ : List Int, y_ = (([0, 1, 4294967295, 167772160, wrap64 (167772160 + t134), wrap64 (3232235520 + t137), wrap64 (4294967295 - t140)] : List Int)) := ⟨_, rfl⟩
  replace H : ((spec_l1Int.f s0_0 t141 t142 y143).bind fun bt146 => (some (false, 0, bt146.1, bt146.2.1, bt146.2.2))) = some (r1, r2, r3, r4, r5) := by first | (rw [hy143]; with_reducible exact H) | (have H2_ := (Option.bind_some _ _).symm.trans H; rw [hy143]; with_reducible exact H2_) | (have H2_ := (Option.bind_some _ _).symm.trans H; with_reducible exact H2_) | with_reducible exact H | (rw [hy143]; exact H) | exact H
  have Ny143 := Aside0.mk hy143
  clear hy143
  replace H := Option.bind_eq_some_iff.mp H
  obtain ⟨⟨t146, t147, t148⟩, A70, H⟩ := H
  replace H : (some (false, 0, t146, t147, t148)) = some (r1, r2, r3, r4, r5) := H
  have A7 := Aside0.mk A70
  clear A70
  simp only [Option.some.injEq, Prod.mk.injEq] at H
  obtain ⟨rfl, rfl, rfl, rfl, rfl⟩ := H
  go_enter Try.func177, Try.ntmps177
  go_wp2_with (first | ((with_reducible refine gate_dst (N := 2) rfl ?_); refine box_event ?hg (N := 2) ?hd (cs := #[.bool false, .int .i64 0, .int .i64 0]) (t := 29) ?hr ?_; (case hd => rfl); (case hg => rfl); (case hr => first | (go_simp; done) | (go_simp; rfl)); intro gb130 hg w8 hbox hb; have n0_ := Aside0.mk (IsS159.below (by repeat (first | (with_reducible first | exact HI0.out | apply IsS159.alloc | apply IsS159.drewN | apply IsS159.drew | apply IsS159.set_1 | apply IsS159.set_2) | exact HI0.out)) hb); have n1_ := Aside0.mk (KeepBut.trans (by repeat (first | (with_reducible first | exact HK.out | apply KeepBut.set_ | apply keep_drewN | apply keep_drew | apply keep_alloc) | exact HK.out)) (KeepBut.of_below hb g none) (.inl rfl)); have n2_ := Aside0.mk (below_step (by repeat (first | (with_reducible first | exact HB.out | apply below_alloc | apply pw_below_drewN | apply below_drew1 | refine below_set ?_ (IsS159.ge HI0.out)) | exact HB.out)) hb); have n3_ := Aside0.mk (hbox); have n4_ := Aside0.mk ((by rw [hg]; exact (keep_size (w := w) (g := g) (row := none) (by repeat (first | (with_reducible first | exact HK.out | apply KeepBut.set_ | apply keep_drewN | apply keep_drew | apply keep_alloc) | exact HK.out))) : w.heap.size ≤ gb130)); have n5_ := Aside0.mk ((Nat.le_trans HW0.out (by rw [hg]; exact (keep_size (w := w) (g := g) (row := none) (by repeat (first | (with_reducible first | exact HK.out | apply KeepBut.set_ | apply keep_drewN | apply keep_drew | apply keep_alloc) | exact HK.out))) : w.heap.size ≤ gb130) : w0.heap.size ≤ gb130)); have n6_ := Aside0.mk ((by rw [hg]; exact Nat.ne_of_lt (IsS159.lt (show IsS159 w0 _ g s0_0 s0_1 s0_2 from by repeat (first | (with_reducible first | exact HI0.out | apply IsS159.alloc | apply IsS159.drewN | apply IsS159.drew | apply IsS159.set_1 | apply IsS159.set_2) | exact HI0.out))) : g ≠ gb130)); have n7_ := Aside0.mk ((by rw [hg]; exact Nat.ne_of_gt (IsS159.lt (show IsS159 w0 _ g s0_0 s0_1 s0_2 from by repeat (first | (with_reducible first | exact HI0.out | apply IsS159.alloc | apply IsS159.drewN | apply IsS159.drew | apply IsS159.set_1 | apply IsS159.set_2) | exact HI0.out))) : gb130 ≠ g)); clear HI0; clear HK; clear HB; have HI0 := n0_; have HK := n1_; have HB := n2_; have BK130 := n3_; have GW130 := n4_; have GE130 := n5_; have NB0_130 := n6_; have NB130_0 := n7_; clear n0_ n1_ n2_ n3_ n4_ n5_ n6_ n7_; clear hb hbox hg) | ((with_reducible refine gate_callee (f := 106) rfl ?_); refine goesL_ (some 5) rfl rfl Try.func106 (by kernel_rfl) rfl #[.pointer (some ⟨g, 0, none⟩), .int .i64 2] rfl al_ ?_; (with_reducible refine (spec_l1Once.calls g s0_0 s0_1 s0_2 2 true t132 t133 w0 _ ?side1 ?side2 A2.out).mono ?_); (case side1 => repeat (first | (with_reducible first | exact HI0.out | apply IsS159.alloc | apply IsS159.drewN | apply IsS159.drew | apply IsS159.set_1 | apply IsS159.set_2 | refine IsS159.far ?_ NB0_130.out _) | exact HI0.out)); (case side2 => repeat (first | (with_reducible first | exact HB.out | apply below_alloc | apply pw_below_drewN | apply below_drew1 | refine below_set ?_ (IsS159.ge HI0.out) | refine below_set ?_ GE130.out) | exact HB.out)); rintro e w9 ⟨rfl, hi, hb, hk⟩; refine ⟨_, rfl, ?_⟩; have n0_ := Aside0.mk (KeepBut.blk hk (g' := gb130) (o := .cells #[.bool false, .int .i64 0, .int .i64 0] 29 (0, 0)) (bk_ BK130.out) NB130_0.out (by simp)); have n1_ := Aside0.mk (KeepBut.trans (by repeat (first | (with_reducible first | exact HK.out | apply KeepBut.set_ | apply keep_drewN | apply keep_drew | apply keep_alloc | refine keep_far ?_ GW130.out _) | exact HK.out)) hk (.inl rfl)); have n2_ := Aside0.mk (hb); have n3_ := Aside0.mk (hi); clear BK130; clear HK; clear HB; clear HI0; have BK130 := n0_; have HK := n1_; have HB := n2_; have HI0 := n3_; clear n0_ n1_ n2_ n3_; (try clear hb); (try clear hb2); (try clear hk); (try clear hi)) | ((with_reducible refine gate_callee (f := 104) rfl ?_); refine goesL_ (some 8) rfl rfl Try.func104 (by kernel_rfl) rfl #[.pointer (some ⟨g, 0, none⟩), .int .i64 300] rfl al_ ?_; (with_reducible refine (spec_l1Below.calls g s0_0 t132 t133 300 t134 t135 t136 w0 _ ?side1 ?side2 A4.out).mono ?_); (case side1 => repeat (first | (with_reducible first | exact HI0.out | apply IsS159.alloc | apply IsS159.drewN | apply IsS159.drew | apply IsS159.set_1 | apply IsS159.set_2 | refine IsS159.far ?_ NB0_130.out _) | exact HI0.out)); (case side2 => repeat (first | (with_reducible first | exact HB.out | apply below_alloc | apply pw_below_drewN | apply below_drew1 | refine below_set ?_ (IsS159.ge HI0.out) | refine below_set ?_ GE130.out) | exact HB.out)); rintro e w10 ⟨rfl, hi, hb, hk⟩; refine ⟨_, rfl, ?_⟩; have n0_ := Aside0.mk (KeepBut.blk hk (g' := gb130) (o := .cells #[.bool false, .int .i64 0, .int .i64 0] 29 (0, 0)) (bk_ BK130.out) NB130_0.out (by simp)); have n1_ := Aside0.mk (KeepBut.trans (by repeat (first | (with_reducible first | exact HK.out | apply KeepBut.set_ | apply keep_drewN | apply keep_drew | apply keep_alloc | refine keep_far ?_ GW130.out _) | exact HK.out)) hk (.inl rfl)); have n2_ := Aside0.mk (hb); have n3_ := Aside0.mk (hi); clear BK130; clear HK; clear HB; clear HI0; have BK130 := n0_; have HK := n1_; have HB := n2_; have HI0 := n3_; clear n0_ n1_ n2_ n3_; (try clear hb); (try clear hb2); (try clear hk); (try clear hi)) | ((with_reducible refine gate_callee (f := 104) rfl ?_); refine goesL_ (some 11) rfl rfl Try.func104 (by kernel_rfl) rfl #[.pointer (some ⟨g, 0, none⟩), .int .i64 65536] rfl al_ ?_; (with_reducible refine (spec_l1Below.calls g s0_0 t135 t136 65536 t137 t138 t139 w0 _ ?side1 ?side2 A5.out).mono ?_); (case side1 => repeat (first | (with_reducible first | exact HI0.out | apply IsS159.alloc | apply IsS159.drewN | apply IsS159.drew | apply IsS159.set_1 | apply IsS159.set_2 | refine IsS159.far ?_ NB0_130.out _) | exact HI0.out)); (case side2 => repeat (first | (with_reducible first | exact HB.out | apply below_alloc | apply pw_below_drewN | apply below_drew1 | refine below_set ?_ (IsS159.ge HI0.out) | refine below_set ?_ GE130.out) | exact HB.out)); rintro e w11 ⟨rfl, hi, hb, hk⟩; refine ⟨_, rfl, ?_⟩; have n0_ := Aside0.mk (KeepBut.blk hk (g' := gb130) (o := .cells #[.bool false, .int .i64 0, .int .i64 0] 29 (0, 0)) (bk_ BK130.out) NB130_0.out (by simp)); have n1_ := Aside0.mk (KeepBut.trans (by repeat (first | (with_reducible first | exact HK.out | apply KeepBut.set_ | apply keep_drewN | apply keep_drew | apply keep_alloc | refine keep_far ?_ GW130.out _) | exact HK.out)) hk (.inl rfl)); have n2_ := Aside0.mk (hb); have n3_ := Aside0.mk (hi); clear BK130; clear HK; clear HB; clear HI0; have BK130 := n0_; have HK := n1_; have HB := n2_; have HI0 := n3_; clear n0_ n1_ n2_ n3_; (try clear hb); (try clear hb2); (try clear hk); (try clear hi)) | ((with_reducible refine gate_callee (f := 104) rfl ?_); refine goesL_ (some 14) rfl rfl Try.func104 (by kernel_rfl) rfl #[.pointer (some ⟨g, 0, none⟩), .int .i64 20] rfl al_ ?_; (with_reducible refine (spec_l1Below.calls g s0_0 t138 t139 20 t140 t141 t142 w0 _ ?side1 ?side2 A6.out).mono ?_); (case side1 => repeat (first | (with_reducible first | exact HI0.out | apply IsS159.alloc | apply IsS159.drewN | apply IsS159.drew | apply IsS159.set_1 | apply IsS159.set_2 | refine IsS159.far ?_ NB0_130.out _) | exact HI0.out)); (case side2 => repeat (first | (with_reducible first | exact HB.out | apply below_alloc | apply pw_below_drewN | apply below_drew1 | refine below_set ?_ (IsS159.ge HI0.out) | refine below_set ?_ GE130.out) | exact HB.out)); rintro e w12 ⟨rfl, hi, hb, hk⟩; refine ⟨_, rfl, ?_⟩; have n0_ := Aside0.mk (KeepBut.blk hk (g' := gb130) (o := .cells #[.bool false, .int .i64 0, .int .i64 0] 29 (0, 0)) (bk_ BK130.out) NB130_0.out (by simp)); have n1_ := Aside0.mk (KeepBut.trans (by repeat (first | (with_reducible first | exact HK.out | apply KeepBut.set_ | apply keep_drewN | apply keep_drew | apply keep_alloc | refine keep_far ?_ GW130.out _) | exact HK.out)) hk (.inl rfl)); have n2_ := Aside0.mk (hb); have n3_ := Aside0.mk (hi); clear BK130; clear HK; clear HB; clear HI0; have BK130 := n0_; have HK := n1_; have HB := n2_; have HI0 := n3_; clear n0_ n1_ n2_ n3_; (try clear hb); (try clear hb2); (try clear hk); (try clear hi)) | ((with_reducible refine gate_dst (N := 16) rfl ?_); refine Kd.R_lit (Kd.int .i64) _ 3 ?hg (N := 16) ?hd (xs := ([0, 1, 4294967295, 167772160, wrap64 (167772160 + t134), wrap64 (3232235520 + t137), wrap64 (4294967295 - t140)] : List Int)) (inner := [.int .i64 0, .int .i64 1, .int .i64 4294967295, .int .i64 167772160, .int .i64 (wrap64 (167772160 + t134)), .int .i64 (wrap64 (3232235520 + t137)), .int .i64 (wrap64 (4294967295 - t140))]) (ok := fun _ => True) (okp := fun _ => True) ?hr ?hp (fun _ hk => hk) trivial (Below.refl _ _) (Nat.le_refl _) (by simp) ?_; (case hd => rfl); (case hg => rfl); (case hr => first | (go_simp; done) | (go_simp; rfl)); (case hp => exact (Reps.one (show Kd.M (Kd.int .i64) _ _ _ 0 [.int .i64 0] from rfl) (Reps.one (show Kd.M (Kd.int .i64) _ _ _ 1 [.int .i64 1] from rfl) (Reps.one (show Kd.M (Kd.int .i64) _ _ _ 4294967295 [.int .i64 4294967295] from rfl) (Reps.one (show Kd.M (Kd.int .i64) _ _ _ 167772160 [.int .i64 167772160] from rfl) (Reps.one (show Kd.M (Kd.int .i64) _ _ _ (wrap64 (167772160 + t134)) [.int .i64 (wrap64 (167772160 + t134))] from rfl) (Reps.one (show Kd.M (Kd.int .i64) _ _ _ (wrap64 (3232235520 + t137)) [.int .i64 (wrap64 (3232235520 + t137))] from rfl) (Reps.one (show Kd.M (Kd.int .i64) _ _ _ (wrap64 (4294967295 - t140)) [.int .i64 (wrap64 (4294967295 - t140))] from rfl) (Reps.none _ _))))))))); intro v144 w13 ho14 hb hg_ hnew_; clear hg_ hnew_; (first | rw [← Ny143.out] at ho14 | (simp only [Int.reduceToNat] at ho14; rw [← Ny143.out] at ho14)); have n0_ := Aside0.mk (Kd.R_lower ho14 (keep_size (w := w) (g := g) (row := none) (by repeat (first | (with_reducible first | exact HK.out | apply KeepBut.set_ | apply keep_drewN | apply keep_drew | apply keep_alloc | refine keep_far ?_ GW130.out _) | exact HK.out)))); have n1_ := Aside0.mk (IsS159.below (by repeat (first | (with_reducible first | exact HI0.out | apply IsS159.alloc | apply IsS159.drewN | apply IsS159.drew | apply IsS159.set_1 | apply IsS159.set_2 | refine IsS159.far ?_ NB0_130.out _) | exact HI0.out)) hb); have n2_ := Aside0.mk (blk_below (bk_ BK130.out) hb); have n3_ := Aside0.mk (KeepBut.trans (by repeat (first | (with_reducible first | exact HK.out | apply KeepBut.set_ | apply keep_drewN | apply keep_drew | apply keep_alloc | refine keep_far ?_ GW130.out _) | exact HK.out)) (KeepBut.of_below hb g none) (.inl rfl)); have n4_ := Aside0.mk (below_step (by repeat (first | (with_reducible first | exact HB.out | apply below_alloc | apply pw_below_drewN | apply below_drew1 | refine below_set ?_ (IsS159.ge HI0.out) | refine below_set ?_ GE130.out) | exact HB.out)) hb); clear HI0; clear BK130; clear HK; clear HB; have HO145 := n0_; have HI0 := n1_; have BK130 := n2_; have HK := n3_; have HB := n4_; clear n0_ n1_ n2_ n3_ n4_; clear hb ho14; obtain ⟨Ao15, co15, eo15⟩ := Kd.R_slice HO145.out; subst eo15) | ((with_reducible refine gate_callee (f := 151) rfl ?_); refine goesL_ (some 17) rfl rfl Try.func151 (by kernel_rfl) rfl #[.pointer (some ⟨g, 0, none⟩), .slice Ao15 y143.length co15] rfl al_ ?_; (with_reducible refine (spec_l1Int.calls g s0_0 t141 t142 _ _ y143 t146 t147 t148 w0 _ ?side1 ?side2 ?side3 ?side4 ?side5 A7.out).mono ?_); (case side1 => repeat (first | (with_reducible first | exact HI0.out | apply IsS159.alloc | apply IsS159.drewN | apply IsS159.drew | apply IsS159.set_1 | apply IsS159.set_2 | refine IsS159.far ?_ NB0_130.out _) | exact HI0.out)); (case side2 => repeat (first | (with_reducible first | exact HB.out | apply below_alloc | apply pw_below_drewN | apply below_drew1 | refine below_set ?_ (IsS159.ge HI0.out) | refine below_set ?_ GE130.out) | exact HB.out)); (case side3 => repeat (first | exact (Kd.R_reads' HO145.out).2.2 | (with_reducible refine Kd.C_alloc ?_ _) | (with_reducible refine Kd.C_drewN ?_ _) | (with_reducible refine Kd.C_drew ?_))); (case side4 => exact (Kd.R_reads' HO145.out).2.1); (case side5 => exact far_slice (IsS159.own_ne HI0.out HO145.out (by decide))); rintro e w16 ⟨rfl, hi, hb, hk⟩; refine ⟨_, rfl, ?_⟩; have n0_ := Aside0.mk (KeepBut.blk hk (g' := gb130) (o := .cells #[.bool false, .int .i64 0, .int .i64 0] 29 (0, 0)) (bk_ BK130.out) NB130_0.out (by simp)); have n1_ := Aside0.mk (Kd.R_mono (Kd.R_keep (IsS159.apart (show IsS159 w0 _ g s0_0 t141 t142 from by repeat (first | (with_reducible first | exact HI0.out | apply IsS159.alloc | apply IsS159.drewN | apply IsS159.drew | apply IsS159.set_1 | apply IsS159.set_2 | refine IsS159.far ?_ NB0_130.out _) | exact HI0.out)) (by (with_reducible repeat (first | apply Kd.R_alloc | apply Kd.R_drewN | apply Kd.R_drew)); exact HO145.out) (by decide)) hk (fun _ h => h.2)) (fun _ h => h.1)); have n2_ := Aside0.mk (KeepBut.trans (by repeat (first | (with_reducible first | exact HK.out | apply KeepBut.set_ | apply keep_drewN | apply keep_drew | apply keep_alloc | refine keep_far ?_ GW130.out _) | exact HK.out)) hk (.inl rfl)); have n3_ := Aside0.mk (hb); have n4_ := Aside0.mk (hi); clear BK130; clear HO145; clear HK; clear HB; clear HI0; have BK130 := n0_; have HO145 := n1_; have HK := n2_; have HB := n3_; have HI0 := n4_; clear n0_ n1_ n2_ n3_ n4_; (try clear hb); (try clear hb2); (try clear hk); (try clear hi); have hnb17 := NB130_0.out; have hnc17 := NB0_130.out; obtain ⟨hcz18_0, hcz18_1, hcz18_2, hfz18_0, hfz18_1, hfz18_2⟩ := bc3_ BK130.out))
  refine bodyPost_ret (results_cell_row rfl _ _ gb130 29 #[.bool false, .int .i64 0, .int .i64 t146] (0, 0) _ rfl (by refine bk_ ?_; refine blk_put (cs := #[.bool false, .int .i64 0, .int .i64 0]) ?_ 2 _ rfl; refine bk_ ?_; refine blk_put (cs := #[.bool false, .int .i64 0, .int .i64 0]) ?_ 1 _ rfl; refine bk_ ?_; refine blk_put (cs := #[.bool false, .int .i64 0, .int .i64 0]) ?_ 0 _ rfl; refine bk_ ?_; exact BK130.out) Try.underlying29 rfl (by kernel_rfl)) rfl ?_
  exact ⟨pe_, by repeat (first | (with_reducible first | exact HI0.out | apply IsS159.alloc | apply IsS159.drewN | apply IsS159.drew | apply IsS159.set_1 | apply IsS159.set_2 | refine IsS159.far ?_ NB0_130.out _) | exact HI0.out), by repeat (first | (with_reducible first | exact HB.out | apply below_alloc | apply pw_below_drewN | apply below_drew1 | refine below_set ?_ (IsS159.ge HI0.out) | refine below_set ?_ GE130.out) | exact HB.out), by repeat (first | (with_reducible first | exact HK.out | apply KeepBut.set_ | apply keep_drewN | apply keep_drew | apply keep_alloc | refine keep_far ?_ GW130.out _) | exact HK.out)⟩
 ·replace c3 := Bool.eq_false_iff.mpr c3
  subst c3
  have H1 : ((spec_l1Odd.f s0_0 t132 t133).bind fun bt149 => ((spec_l1Int.f s0_0 bt149.2.1 bt149.2.2 (([0, 2306139568115548160, (-108086391056891904), (-1), 1, 65536, bt149.1] : List Int))).bind fun bt155 => ((spec_l1Below.f s0_0 bt155.2.1 bt155.2.2 70000).bind fun bt158 => ((spec_l1Odd.f s0_0 bt158.2.1 bt158.2.2).bind fun bt161 => ((spec_l1Int.f s0_0 bt161.2.1 bt161.2.2 (([0, 1, (-1), 65536, 4294967296, bt158.1, bt161.1] : List Int))).bind fun bt167 => (some (true, bt155.1, bt167.1, bt167.2.1, bt167.2.2))))))) = some (r1, r2, r3, r4, r5) := by rw [if_neg (show ¬ (false = true) by decide)] at H; exact H
  clear H
  have H := H1
  clear H1
  replace H := Option.bind_eq_some_iff.mp H
  obtain ⟨⟨t149, t150, t151⟩, A190, H⟩ := H
  replace H : ((spec_l1Int.f s0_0 t150 t151 (([0, 2306139568115548160, (-108086391056891904), (-1), 1, 65536, t149] : List Int))).bind fun bt155 => ((spec_l1Below.f s0_0 bt155.2.1 bt155.2.2 70000).bind fun bt158 => ((spec_l1Odd.f s0_0 bt158.2.1 bt158.2.2).bind fun bt161 => ((spec_l1Int.f s0_0 bt161.2.1 bt161.2.2 (([0, 1, (-1), 65536, 4294967296, bt158.1, bt161.1] : List Int))).bind fun bt167 => (some (true, bt155.1, bt167.1, bt167.2.1, bt167.2.2)))))) = some (r1, r2, r3, r4, r5) := H
  have A19 := Aside0.mk A190
  clear A190
  obtain ⟨y152, hy152⟩ : ∃ y_ : List Int, y_ = (([0, 2306139568115548160, (-108086391056891904), (-1), 1, 65536, t149] : List Int)) := ⟨_, rfl⟩
  replace H : ((spec_l1Int.f s0_0 t150 t151 y152).bind fun bt155 => ((spec_l1Below.f s0_0 bt155.2.1 bt155.2.2 70000).bind fun bt158 => ((spec_l1Odd.f s0_0 bt158.2.1 bt158.2.2).bind fun bt161 => ((spec_l1Int.f s0_0 bt161.2.1 bt161.2.2 (([0, 1, (-1), 65536, 4294967296, bt158.1, bt161.1] : List Int))).bind fun bt167 => (some (true, bt155.1, bt167.1, bt167.2.1, bt167.2.2)))))) = some (r1, r2, r3, r4, r5) := by first | (rw [hy152]; with_reducible exact H) | (have H2_ := (Option.bind_some _ _).symm.trans H; rw [hy152]; with_reducible exact H2_) | (have H2_ := (Option.bind_some _ _).symm.trans H; with_reducible exact H2_) | with_reducible exact H | (rw [hy152]; exact H) | exact H
  have Ny152 := Aside0.mk hy152
  clear hy152
  replace H := Option.bind_eq_some_iff.mp H
  obtain ⟨⟨t155, t156, t157⟩, A200, H⟩ := H
  replace H : ((spec_l1Below.f s0_0 t156 t157 70000).bind fun bt158 => ((spec_l1Odd.f s0_0 bt158.2.1 bt158.2.2).bind fun bt161 => ((spec_l1Int.f s0_0 bt161.2.1 bt161.2.2 (([0, 1, (-1), 65536, 4294967296, bt158.1, bt161.1] : List Int))).bind fun bt167 => (some (true, t155, bt167.1, bt167.2.1, bt167.2.2))))) = some (r1, r2, r3, r4, r5) := H
  have A20 := Aside0.mk A200
  clear A200
  replace H := Option.bind_eq_some_iff.mp H
  obtain ⟨⟨t158, t159, t160⟩, A210, H⟩ := H
  replace H : ((spec_l1Odd.f s0_0 t159 t160).bind fun bt161 => ((spec_l1Int.f s0_0 bt161.2.1 bt161.2.2 (([0, 1, (-1), 65536, 4294967296, t158, bt161.1] : List Int))).bind fun bt167 => (some (true, t155, bt167.1, bt167.2.1, bt167.2.2)))) = some (r1, r2, r3, r4, r5) := H
  have A21 := Aside0.mk A210
  clear A210
  replace H := Option.bind_eq_some_iff.mp H
  obtain ⟨⟨t161, t162, t163⟩, A220, H⟩ := H
  replace H : ((spec_l1Int.f s0_0 t162 t163 (([0, 1, (-1), 65536, 4294967296, t158, t161] : List Int))).bind fun bt167 => (some (true, t155, bt167.1, bt167.2.1, bt167.2.2))) = some (r1, r2, r3, r4, r5) := H
  have A22 := Aside0.mk A220
  clear A220
  obtain ⟨y164, hy164⟩ : ∃ y_ : List Int, y_ = (([0, 1, (-1), 65536, 4294967296, t158, t161] : List Int)) := ⟨_, rfl⟩
  replace H : ((spec_l1Int.f s0_0 t162 t163 y164).bind fun bt167 => (some (true, t155, bt167.1, bt167.2.1, bt167.2.2))) = some (r1, r2, r3, r4, r5) := by first | (rw [hy164]; with_reducible exact H) | (have H2_ := (Option.bind_some _ _).symm.trans H; rw [hy164]; with_reducible exact H2_) | (have H2_ := (Option.bind_some _ _).symm.trans H; with_reducible exact H2_) | with_reducible exact H | (rw [hy164]; exact H) | exact H
  have Ny164 := Aside0.mk hy164
  clear hy164
  replace H := Option.bind_eq_some_iff.mp H
  obtain ⟨⟨t167, t168, t169⟩, A230, H⟩ := H
  replace H : (some (true, t155, t167, t168, t169)) = some (r1, r2, r3, r4, r5) := H
  have A23 := Aside0.mk A230
  clear A230
  simp only [Option.some.injEq, Prod.mk.injEq] at H
  obtain ⟨rfl, rfl, rfl, rfl, rfl⟩ := H
  go_enter Try.func177, Try.ntmps177
  go_wp2_with (first | ((with_reducible refine gate_dst (N := 2) rfl ?_); refine box_event ?hg (N := 2) ?hd (cs := #[.bool false, .int .i64 0, .int .i64 0]) (t := 29) ?hr ?_; (case hd => rfl); (case hg => rfl); (case hr => first | (go_simp; done) | (go_simp; rfl)); intro gb130 hg w24 hbox hb; have n0_ := Aside0.mk (IsS159.below (by repeat (first | (with_reducible first | exact HI0.out | apply IsS159.alloc | apply IsS159.drewN | apply IsS159.drew | apply IsS159.set_1 | apply IsS159.set_2) | exact HI0.out)) hb); have n1_ := Aside0.mk (KeepBut.trans (by repeat (first | (with_reducible first | exact HK.out | apply KeepBut.set_ | apply keep_drewN | apply keep_drew | apply keep_alloc) | exact HK.out)) (KeepBut.of_below hb g none) (.inl rfl)); have n2_ := Aside0.mk (below_step (by repeat (first | (with_reducible first | exact HB.out | apply below_alloc | apply pw_below_drewN | apply below_drew1 | refine below_set ?_ (IsS159.ge HI0.out)) | exact HB.out)) hb); have n3_ := Aside0.mk (hbox); have n4_ := Aside0.mk ((by rw [hg]; exact (keep_size (w := w) (g := g) (row := none) (by repeat (first | (with_reducible first | exact HK.out | apply KeepBut.set_ | apply keep_drewN | apply keep_drew | apply keep_alloc) | exact HK.out))) : w.heap.size ≤ gb130)); have n5_ := Aside0.mk ((Nat.le_trans HW0.out (by rw [hg]; exact (keep_size (w := w) (g := g) (row := none) (by repeat (first | (with_reducible first | exact HK.out | apply KeepBut.set_ | apply keep_drewN | apply keep_drew | apply keep_alloc) | exact HK.out))) : w.heap.size ≤ gb130) : w0.heap.size ≤ gb130)); have n6_ := Aside0.mk ((by rw [hg]; exact Nat.ne_of_lt (IsS159.lt (show IsS159 w0 _ g s0_0 s0_1 s0_2 from by repeat (first | (with_reducible first | exact HI0.out | apply IsS159.alloc | apply IsS159.drewN | apply IsS159.drew | apply IsS159.set_1 | apply IsS159.set_2) | exact HI0.out))) : g ≠ gb130)); have n7_ := Aside0.mk ((by rw [hg]; exact Nat.ne_of_gt (IsS159.lt (show IsS159 w0 _ g s0_0 s0_1 s0_2 from by repeat (first | (with_reducible first | exact HI0.out | apply IsS159.alloc | apply IsS159.drewN | apply IsS159.drew | apply IsS159.set_1 | apply IsS159.set_2) | exact HI0.out))) : gb130 ≠ g)); clear HI0; clear HK; clear HB; have HI0 := n0_; have HK := n1_; have HB := n2_; have BK130 := n3_; have GW130 := n4_; have GE130 := n5_; have NB0_130 := n6_; have NB130_0 := n7_; clear n0_ n1_ n2_ n3_ n4_ n5_ n6_ n7_; clear hb hbox hg) | ((with_reducible refine gate_callee (f := 106) rfl ?_); refine goesL_ (some 5) rfl rfl Try.func106 (by kernel_rfl) rfl #[.pointer (some ⟨g, 0, none⟩), .int .i64 2] rfl al_ ?_; (with_reducible refine (spec_l1Once.calls g s0_0 s0_1 s0_2 2 false t132 t133 w0 _ ?side1 ?side2 A2.out).mono ?_); (case side1 => repeat (first | (with_reducible first | exact HI0.out | apply IsS159.alloc | apply IsS159.drewN | apply IsS159.drew | apply IsS159.set_1 | apply IsS159.set_2 | refine IsS159.far ?_ NB0_130.out _) | exact HI0.out)); (case side2 => repeat (first | (with_reducible first | exact HB.out | apply below_alloc | apply pw_below_drewN | apply below_drew1 | refine below_set ?_ (IsS159.ge HI0.out) | refine below_set ?_ GE130.out) | exact HB.out)); rintro e w25 ⟨rfl, hi, hb, hk⟩; refine ⟨_, rfl, ?_⟩; have n0_ := Aside0.mk (KeepBut.blk hk (g' := gb130) (o := .cells #[.bool false, .int .i64 0, .int .i64 0] 29 (0, 0)) (bk_ BK130.out) NB130_0.out (by simp)); have n1_ := Aside0.mk (KeepBut.trans (by repeat (first | (with_reducible first | exact HK.out | apply KeepBut.set_ | apply keep_drewN | apply keep_drew | apply keep_alloc | refine keep_far ?_ GW130.out _) | exact HK.out)) hk (.inl rfl)); have n2_ := Aside0.mk (hb); have n3_ := Aside0.mk (hi); clear BK130; clear HK; clear HB; clear HI0; have BK130 := n0_; have HK := n1_; have HB := n2_; have HI0 := n3_; clear n0_ n1_ n2_ n3_; (try clear hb); (try clear hb2); (try clear hk); (try clear hi)) | ((with_reducible refine gate_callee (f := 179) rfl ?_); refine goesL_ (some 21) rfl rfl Try.func179 (by kernel_rfl) rfl #[.pointer (some ⟨g, 0, none⟩)] rfl al_ ?_; (with_reducible refine (spec_l1Odd.calls g s0_0 t132 t133 t149 t150 t151 w0 _ ?side1 ?side2 A19.out).mono ?_); (case side1 => repeat (first | (with_reducible first | exact HI0.out | apply IsS159.alloc | apply IsS159.drewN | apply IsS159.drew | apply IsS159.set_1 | apply IsS159.set_2 | refine IsS159.far ?_ NB0_130.out _) | exact HI0.out)); (case side2 => repeat (first | (with_reducible first | exact HB.out | apply below_alloc | apply pw_below_drewN | apply below_drew1 | refine below_set ?_ (IsS159.ge HI0.out) | refine below_set ?_ GE130.out) | exact HB.out)); rintro e w26 ⟨rfl, hi, hb, hk⟩; refine ⟨_, rfl, ?_⟩; have n0_ := Aside0.mk (KeepBut.blk hk (g' := gb130) (o := .cells #[.bool false, .int .i64 0, .int .i64 0] 29 (0, 0)) (bk_ BK130.out) NB130_0.out (by simp)); have n1_ := Aside0.mk (KeepBut.trans (by repeat (first | (with_reducible first | exact HK.out | apply KeepBut.set_ | apply keep_drewN | apply keep_drew | apply keep_alloc | refine keep_far ?_ GW130.out _) | exact HK.out)) hk (.inl rfl)); have n2_ := Aside0.mk (hb); have n3_ := Aside0.mk (hi); clear BK130; clear HK; clear HB; clear HI0; have BK130 := n0_; have HK := n1_; have HB := n2_; have HI0 := n3_; clear n0_ n1_ n2_ n3_; (try clear hb); (try clear hb2); (try clear hk); (try clear hi)) | ((with_reducible refine gate_dst (N := 22) rfl ?_); refine Kd.R_lit (Kd.int .i64) _ 3 ?hg (N := 22) ?hd (xs := ([0, 2306139568115548160, (-108086391056891904), (-1), 1, 65536, t149] : List Int)) (inner := [.int .i64 0, .int .i64 2306139568115548160, .int .i64 (-108086391056891904), .int .i64 (-1), .int .i64 1, .int .i64 65536, .int .i64 t149]) (ok := fun _ => True) (okp := fun _ => True) ?hr ?hp (fun _ hk => hk) trivial (Below.refl _ _) (Nat.le_refl _) (by simp) ?_; (case hd => rfl); (case hg => rfl); (case hr => first | (go_simp; done) | (go_simp; rfl)); (case hp => exact (Reps.one (show Kd.M (Kd.int .i64) _ _ _ 0 [.int .i64 0] from rfl) (Reps.one (show Kd.M (Kd.int .i64) _ _ _ 2306139568115548160 [.int .i64 2306139568115548160] from rfl) (Reps.one (show Kd.M (Kd.int .i64) _ _ _ (-108086391056891904) [.int .i64 (-108086391056891904)] from rfl) (Reps.one (show Kd.M (Kd.int .i64) _ _ _ (-1) [.int .i64 (-1)] from rfl) (Reps.one (show Kd.M (Kd.int .i64) _ _ _ 1 [.int .i64 1] from rfl) (Reps.one (show Kd.M (Kd.int .i64) _ _ _ 65536 [.int .i64 65536] from rfl) (Reps.one (show Kd.M (Kd.int .i64) _ _ _ t149 [.int .i64 t149] from rfl) (Reps.none _ _))))))))); intro v153 w27 ho28 hb hg_ hnew_; clear hg_ hnew_; (first | rw [← Ny152.out] at ho28 | (simp only [Int.reduceToNat] at ho28; rw [← Ny152.out] at ho28)); have n0_ := Aside0.mk (Kd.R_lower ho28 (keep_size (w := w) (g := g) (row := none) (by repeat (first | (with_reducible first | exact HK.out | apply KeepBut.set_ | apply keep_drewN | apply keep_drew | apply keep_alloc | refine keep_far ?_ GW130.out _) | exact HK.out)))); have n1_ := Aside0.mk (IsS159.below (by repeat (first | (with_reducible first | exact HI0.out | apply IsS159.alloc | apply IsS159.drewN | apply IsS159.drew | apply IsS159.set_1 | apply IsS159.set_2 | refine IsS159.far ?_ NB0_130.out _) | exact HI0.out)) hb); have n2_ := Aside0.mk (blk_below (bk_ BK130.out) hb); have n3_ := Aside0.mk (KeepBut.trans (by repeat (first | (with_reducible first | exact HK.out | apply KeepBut.set_ | apply keep_drewN | apply keep_drew | apply keep_alloc | refine keep_far ?_ GW130.out _) | exact HK.out)) (KeepBut.of_below hb g none) (.inl rfl)); have n4_ := Aside0.mk (below_step (by repeat (first | (with_reducible first | exact HB.out | apply below_alloc | apply pw_below_drewN | apply below_drew1 | refine below_set ?_ (IsS159.ge HI0.out) | refine below_set ?_ GE130.out) | exact HB.out)) hb); clear HI0; clear BK130; clear HK; clear HB; have HO154 := n0_; have HI0 := n1_; have BK130 := n2_; have HK := n3_; have HB := n4_; clear n0_ n1_ n2_ n3_ n4_; clear hb ho28; obtain ⟨Ao29, co29, eo29⟩ := Kd.R_slice HO154.out; subst eo29) | ((with_reducible refine gate_callee (f := 151) rfl ?_); refine goesL_ (some 23) rfl rfl Try.func151 (by kernel_rfl) rfl #[.pointer (some ⟨g, 0, none⟩), .slice Ao29 y152.length co29] rfl al_ ?_; (with_reducible refine (spec_l1Int.calls g s0_0 t150 t151 _ _ y152 t155 t156 t157 w0 _ ?side1 ?side2 ?side3 ?side4 ?side5 A20.out).mono ?_); (case side1 => repeat (first | (with_reducible first | exact HI0.out | apply IsS159.alloc | apply IsS159.drewN | apply IsS159.drew | apply IsS159.set_1 | apply IsS159.set_2 | refine IsS159.far ?_ NB0_130.out _) | exact HI0.out)); (case side2 => repeat (first | (with_reducible first | exact HB.out | apply below_alloc | apply pw_below_drewN | apply below_drew1 | refine below_set ?_ (IsS159.ge HI0.out) | refine below_set ?_ GE130.out) | exact HB.out)); (case side3 => repeat (first | exact (Kd.R_reads' HO154.out).2.2 | (with_reducible refine Kd.C_alloc ?_ _) | (with_reducible refine Kd.C_drewN ?_ _) | (with_reducible refine Kd.C_drew ?_))); (case side4 => exact (Kd.R_reads' HO154.out).2.1); (case side5 => exact far_slice (IsS159.own_ne HI0.out HO154.out (by decide))); rintro e w30 ⟨rfl, hi, hb, hk⟩; refine ⟨_, rfl, ?_⟩; have n0_ := Aside0.mk (KeepBut.blk hk (g' := gb130) (o := .cells #[.bool false, .int .i64 0, .int .i64 0] 29 (0, 0)) (bk_ BK130.out) NB130_0.out (by simp)); have n1_ := Aside0.mk (Kd.R_mono (Kd.R_keep (IsS159.apart (show IsS159 w0 _ g s0_0 t150 t151 from by repeat (first | (with_reducible first | exact HI0.out | apply IsS159.alloc | apply IsS159.drewN | apply IsS159.drew | apply IsS159.set_1 | apply IsS159.set_2 | refine IsS159.far ?_ NB0_130.out _) | exact HI0.out)) (by (with_reducible repeat (first | apply Kd.R_alloc | apply Kd.R_drewN | apply Kd.R_drew)); exact HO154.out) (by decide)) hk (fun _ h => h.2)) (fun _ h => h.1)); have n2_ := Aside0.mk (KeepBut.trans (by repeat (first | (with_reducible first | exact HK.out | apply KeepBut.set_ | apply keep_drewN | apply keep_drew | apply keep_alloc | refine keep_far ?_ GW130.out _) | exact HK.out)) hk (.inl rfl)); have n3_ := Aside0.mk (hb); have n4_ := Aside0.mk (hi); clear BK130; clear HO154; clear HK; clear HB; clear HI0; have BK130 := n0_; have HO154 := n1_; have HK := n2_; have HB := n3_; have HI0 := n4_; clear n0_ n1_ n2_ n3_ n4_; (try clear hb); (try clear hb2); (try clear hk); (try clear hi)) | ((with_reducible refine gate_callee (f := 104) rfl ?_); refine goesL_ (some 26) rfl rfl Try.func104 (by kernel_rfl) rfl #[.pointer (some ⟨g, 0, none⟩), .int .i64 70000] rfl al_ ?_; (with_reducible refine (spec_l1Below.calls g s0_0 t156 t157 70000 t158 t159 t160 w0 _ ?side1 ?side2 A21.out).mono ?_); (case side1 => repeat (first | (with_reducible first | exact HI0.out | apply IsS159.alloc | apply IsS159.drewN | apply IsS159.drew | apply IsS159.set_1 | apply IsS159.set_2 | refine IsS159.far ?_ NB0_130.out _) | exact HI0.out)); (case side2 => repeat (first | (with_reducible first | exact HB.out | apply below_alloc | apply pw_below_drewN | apply below_drew1 | refine below_set ?_ (IsS159.ge HI0.out) | refine below_set ?_ GE130.out) | exact HB.out)); rintro e w31 ⟨rfl, hi, hb, hk⟩; refine ⟨_, rfl, ?_⟩; have n0_ := Aside0.mk (KeepBut.blk hk (g' := gb130) (o := .cells #[.bool false, .int .i64 0, .int .i64 0] 29 (0, 0)) (bk_ BK130.out) NB130_0.out (by simp)); have n1_ := Aside0.mk (Kd.R_mono (Kd.R_keep (IsS159.apart (show IsS159 w0 _ g s0_0 t156 t157 from by repeat (first | (with_reducible first | exact HI0.out | apply IsS159.alloc | apply IsS159.drewN | apply IsS159.drew | apply IsS159.set_1 | apply IsS159.set_2 | refine IsS159.far ?_ NB0_130.out _) | exact HI0.out)) (by (with_reducible repeat (first | apply Kd.R_alloc | apply Kd.R_drewN | apply Kd.R_drew)); exact HO154.out) (by decide)) hk (fun _ h => h.2)) (fun _ h => h.1)); have n2_ := Aside0.mk (KeepBut.trans (by repeat (first | (with_reducible first | exact HK.out | apply KeepBut.set_ | apply keep_drewN | apply keep_drew | apply keep_alloc | refine keep_far ?_ GW130.out _) | exact HK.out)) hk (.inl rfl)); have n3_ := Aside0.mk (hb); have n4_ := Aside0.mk (hi); clear BK130; clear HO154; clear HK; clear HB; clear HI0; have BK130 := n0_; have HO154 := n1_; have HK := n2_; have HB := n3_; have HI0 := n4_; clear n0_ n1_ n2_ n3_ n4_; (try clear hb); (try clear hb2); (try clear hk); (try clear hi)) | ((with_reducible refine gate_callee (f := 179) rfl ?_); refine goesL_ (some 28) rfl rfl Try.func179 (by kernel_rfl) rfl #[.pointer (some ⟨g, 0, none⟩)] rfl al_ ?_; (with_reducible refine (spec_l1Odd.calls g s0_0 t159 t160 t161 t162 t163 w0 _ ?side1 ?side2 A22.out).mono ?_); (case side1 => repeat (first | (with_reducible first | exact HI0.out | apply IsS159.alloc | apply IsS159.drewN | apply IsS159.drew | apply IsS159.set_1 | apply IsS159.set_2 | refine IsS159.far ?_ NB0_130.out _) | exact HI0.out)); (case side2 => repeat (first | (with_reducible first | exact HB.out | apply below_alloc | apply pw_below_drewN | apply below_drew1 | refine below_set ?_ (IsS159.ge HI0.out) | refine below_set ?_ GE130.out) | exact HB.out)); rintro e w32 ⟨rfl, hi, hb, hk⟩; refine ⟨_, rfl, ?_⟩; have n0_ := Aside0.mk (KeepBut.blk hk (g' := gb130) (o := .cells #[.bool false, .int .i64 0, .int .i64 0] 29 (0, 0)) (bk_ BK130.out) NB130_0.out (by simp)); have n1_ := Aside0.mk (Kd.R_mono (Kd.R_keep (IsS159.apart (show IsS159 w0 _ g s0_0 t159 t160 from by repeat (first | (with_reducible first | exact HI0.out | apply IsS159.alloc | apply IsS159.drewN | apply IsS159.drew | apply IsS159.set_1 | apply IsS159.set_2 | refine IsS159.far ?_ NB0_130.out _) | exact HI0.out)) (by (with_reducible repeat (first | apply Kd.R_alloc | apply Kd.R_drewN | apply Kd.R_drew)); exact HO154.out) (by decide)) hk (fun _ h => h.2)) (fun _ h => h.1)); have n2_ := Aside0.mk (KeepBut.trans (by repeat (first | (with_reducible first | exact HK.out | apply KeepBut.set_ | apply keep_drewN | apply keep_drew | apply keep_alloc | refine keep_far ?_ GW130.out _) | exact HK.out)) hk (.inl rfl)); have n3_ := Aside0.mk (hb); have n4_ := Aside0.mk (hi); clear BK130; clear HO154; clear HK; clear HB; clear HI0; have BK130 := n0_; have HO154 := n1_; have HK := n2_; have HB := n3_; have HI0 := n4_; clear n0_ n1_ n2_ n3_ n4_; (try clear hb); (try clear hb2); (try clear hk); (try clear hi)) | ((with_reducible refine gate_dst (N := 29) rfl ?_); refine Kd.R_lit (Kd.int .i64) _ 3 ?hg (N := 29) ?hd (xs := ([0, 1, (-1), 65536, 4294967296, t158, t161] : List Int)) (inner := [.int .i64 0, .int .i64 1, .int .i64 (-1), .int .i64 65536, .int .i64 4294967296, .int .i64 t158, .int .i64 t161]) (ok := fun _ => True) (okp := fun _ => True) ?hr ?hp (fun _ hk => hk) trivial (Below.refl _ _) (Nat.le_refl _) (by simp) ?_; (case hd => rfl); (case hg => rfl); (case hr => first | (go_simp; done) | (go_simp; rfl)); (case hp => exact (Reps.one (show Kd.M (Kd.int .i64) _ _ _ 0 [.int .i64 0] from rfl) (Reps.one (show Kd.M (Kd.int .i64) _ _ _ 1 [.int .i64 1] from rfl) (Reps.one (show Kd.M (Kd.int .i64) _ _ _ (-1) [.int .i64 (-1)] from rfl) (Reps.one (show Kd.M (Kd.int .i64) _ _ _ 65536 [.int .i64 65536] from rfl) (Reps.one (show Kd.M (Kd.int .i64) _ _ _ 4294967296 [.int .i64 4294967296] from rfl) (Reps.one (show Kd.M (Kd.int .i64) _ _ _ t158 [.int .i64 t158] from rfl) (Reps.one (show Kd.M (Kd.int .i64) _ _ _ t161 [.int .i64 t161] from rfl) (Reps.none _ _))))))))); intro v165 w33 ho34 hb hg_ hnew_; clear hg_ hnew_; (first | rw [← Ny164.out] at ho34 | (simp only [Int.reduceToNat] at ho34; rw [← Ny164.out] at ho34)); have n0_ := Aside0.mk (Kd.R_elder' (by (with_reducible repeat (first | apply Kd.R_alloc | apply Kd.R_drewN | apply Kd.R_drew)); exact HO154.out) (Kd.R_base ho34) hb); have n1_ := Aside0.mk (Kd.R_lower (Kd.R_new' ho34 (Kd.R_lt (by (with_reducible repeat (first | apply Kd.R_alloc | apply Kd.R_drewN | apply Kd.R_drew)); exact HO154.out))) (keep_size (w := w) (g := g) (row := none) (by repeat (first | (with_reducible first | exact HK.out | apply KeepBut.set_ | apply keep_drewN | apply keep_drew | apply keep_alloc | refine keep_far ?_ GW130.out _) | exact HK.out)))); have n2_ := Aside0.mk (IsS159.below (by repeat (first | (with_reducible first | exact HI0.out | apply IsS159.alloc | apply IsS159.drewN | apply IsS159.drew | apply IsS159.set_1 | apply IsS159.set_2 | refine IsS159.far ?_ NB0_130.out _) | exact HI0.out)) hb); have n3_ := Aside0.mk (blk_below (bk_ BK130.out) hb); have n4_ := Aside0.mk (KeepBut.trans (by repeat (first | (with_reducible first | exact HK.out | apply KeepBut.set_ | apply keep_drewN | apply keep_drew | apply keep_alloc | refine keep_far ?_ GW130.out _) | exact HK.out)) (KeepBut.of_below hb g none) (.inl rfl)); have n5_ := Aside0.mk (below_step (by repeat (first | (with_reducible first | exact HB.out | apply below_alloc | apply pw_below_drewN | apply below_drew1 | refine below_set ?_ (IsS159.ge HI0.out) | refine below_set ?_ GE130.out) | exact HB.out)) hb); clear HO154; clear HI0; clear BK130; clear HK; clear HB; have HO154 := n0_; have HO166 := n1_; have HI0 := n2_; have BK130 := n3_; have HK := n4_; have HB := n5_; clear n0_ n1_ n2_ n3_ n4_ n5_; clear hb ho34; obtain ⟨Ao35, co35, eo35⟩ := Kd.R_slice HO166.out; subst eo35) | ((with_reducible refine gate_callee (f := 151) rfl ?_); refine goesL_ (some 30) rfl rfl Try.func151 (by kernel_rfl) rfl #[.pointer (some ⟨g, 0, none⟩), .slice Ao35 y164.length co35] rfl al_ ?_; (with_reducible refine (spec_l1Int.calls g s0_0 t162 t163 _ _ y164 t167 t168 t169 w0 _ ?side1 ?side2 ?side3 ?side4 ?side5 A23.out).mono ?_); (case side1 => repeat (first | (with_reducible first | exact HI0.out | apply IsS159.alloc | apply IsS159.drewN | apply IsS159.drew | apply IsS159.set_1 | apply IsS159.set_2 | refine IsS159.far ?_ NB0_130.out _) | exact HI0.out)); (case side2 => repeat (first | (with_reducible first | exact HB.out | apply below_alloc | apply pw_below_drewN | apply below_drew1 | refine below_set ?_ (IsS159.ge HI0.out) | refine below_set ?_ GE130.out) | exact HB.out)); (case side3 => repeat (first | exact (Kd.R_reads' HO166.out).2.2 | (with_reducible refine Kd.C_alloc ?_ _) | (with_reducible refine Kd.C_drewN ?_ _) | (with_reducible refine Kd.C_drew ?_))); (case side4 => exact (Kd.R_reads' HO166.out).2.1); (case side5 => exact far_slice (IsS159.own_ne HI0.out HO166.out (by decide))); rintro e w36 ⟨rfl, hi, hb, hk⟩; refine ⟨_, rfl, ?_⟩; have n0_ := Aside0.mk (KeepBut.blk hk (g' := gb130) (o := .cells #[.bool false, .int .i64 0, .int .i64 0] 29 (0, 0)) (bk_ BK130.out) NB130_0.out (by simp)); have n1_ := Aside0.mk (Kd.R_mono (Kd.R_keep (IsS159.apart (show IsS159 w0 _ g s0_0 t162 t163 from by repeat (first | (with_reducible first | exact HI0.out | apply IsS159.alloc | apply IsS159.drewN | apply IsS159.drew | apply IsS159.set_1 | apply IsS159.set_2 | refine IsS159.far ?_ NB0_130.out _) | exact HI0.out)) (by (with_reducible repeat (first | apply Kd.R_alloc | apply Kd.R_drewN | apply Kd.R_drew)); exact HO154.out) (by decide)) hk (fun _ h => h.2)) (fun _ h => h.1)); have n2_ := Aside0.mk (Kd.R_mono (Kd.R_keep (IsS159.apart (show IsS159 w0 _ g s0_0 t162 t163 from by repeat (first | (with_reducible first | exact HI0.out | apply IsS159.alloc | apply IsS159.drewN | apply IsS159.drew | apply IsS159.set_1 | apply IsS159.set_2 | refine IsS159.far ?_ NB0_130.out _) | exact HI0.out)) (by (with_reducible repeat (first | apply Kd.R_alloc | apply Kd.R_drewN | apply Kd.R_drew)); exact HO166.out) (by decide)) hk (fun _ h => h.2)) (fun _ h => h.1)); have n3_ := Aside0.mk (KeepBut.trans (by repeat (first | (with_reducible first | exact HK.out | apply KeepBut.set_ | apply keep_drewN | apply keep_drew | apply keep_alloc | refine keep_far ?_ GW130.out _) | exact HK.out)) hk (.inl rfl)); have n4_ := Aside0.mk (hb); have n5_ := Aside0.mk (hi); clear BK130; clear HO154; clear HO166; clear HK; clear HB; clear HI0; have BK130 := n0_; have HO154 := n1_; have HO166 := n2_; have HK := n3_; have HB := n4_; have HI0 := n5_; clear n0_ n1_ n2_ n3_ n4_ n5_; (try clear hb); (try clear hb2); (try clear hk); (try clear hi)) | ((with_reducible refine gate_dst (N := 3) rfl ?_); refine box_event ?hg (N := 3) ?hd (cs := #[.bool false, .int .i64 0, .int .i64 0]) (t := 29) ?hr ?_; (case hd => rfl); (case hg => rfl); (case hr => first | (go_simp; done) | (go_simp; rfl)); intro gb170 hg w37 hbox hb; have n0_ := Aside0.mk (Kd.R_below (by (with_reducible repeat (first | apply Kd.R_alloc | apply Kd.R_drewN | apply Kd.R_drew)); exact HO154.out) hb); have n1_ := Aside0.mk (Kd.R_below (by (with_reducible repeat (first | apply Kd.R_alloc | apply Kd.R_drewN | apply Kd.R_drew)); exact HO166.out) hb); have n2_ := Aside0.mk (IsS159.below (by repeat (first | (with_reducible first | exact HI0.out | apply IsS159.alloc | apply IsS159.drewN | apply IsS159.drew | apply IsS159.set_1 | apply IsS159.set_2 | refine IsS159.far ?_ NB0_130.out _) | exact HI0.out)) hb); have n3_ := Aside0.mk (blk_below (bk_ BK130.out) hb); have n4_ := Aside0.mk (KeepBut.trans (by repeat (first | (with_reducible first | exact HK.out | apply KeepBut.set_ | apply keep_drewN | apply keep_drew | apply keep_alloc | refine keep_far ?_ GW130.out _) | exact HK.out)) (KeepBut.of_below hb g none) (.inl rfl)); have n5_ := Aside0.mk (below_step (by repeat (first | (with_reducible first | exact HB.out | apply below_alloc | apply pw_below_drewN | apply below_drew1 | refine below_set ?_ (IsS159.ge HI0.out) | refine below_set ?_ GE130.out) | exact HB.out)) hb); have n6_ := Aside0.mk (hbox); have n7_ := Aside0.mk ((by rw [hg]; exact (keep_size (w := w) (g := g) (row := none) (by repeat (first | (with_reducible first | exact HK.out | apply KeepBut.set_ | apply keep_drewN | apply keep_drew | apply keep_alloc | refine keep_far ?_ GW130.out _) | exact HK.out))) : w.heap.size ≤ gb170)); have n8_ := Aside0.mk ((Nat.le_trans HW0.out (by rw [hg]; exact (keep_size (w := w) (g := g) (row := none) (by repeat (first | (with_reducible first | exact HK.out | apply KeepBut.set_ | apply keep_drewN | apply keep_drew | apply keep_alloc | refine keep_far ?_ GW130.out _) | exact HK.out))) : w.heap.size ≤ gb170) : w0.heap.size ≤ gb170)); have n9_ := bn_ hg (blk_lt (bk_ BK130.out)); have n10_ := bm_ hg (blk_lt (bk_ BK130.out)); have n11_ := Aside0.mk ((by rw [hg]; exact Nat.ne_of_lt (IsS159.lt (show IsS159 w0 _ g s0_0 t168 t169 from by repeat (first | (with_reducible first | exact HI0.out | apply IsS159.alloc | apply IsS159.drewN | apply IsS159.drew | apply IsS159.set_1 | apply IsS159.set_2 | refine IsS159.far ?_ NB0_130.out _) | exact HI0.out))) : g ≠ gb170)); have n12_ := Aside0.mk ((by rw [hg]; exact Nat.ne_of_gt (IsS159.lt (show IsS159 w0 _ g s0_0 t168 t169 from by repeat (first | (with_reducible first | exact HI0.out | apply IsS159.alloc | apply IsS159.drewN | apply IsS159.drew | apply IsS159.set_1 | apply IsS159.set_2 | refine IsS159.far ?_ NB0_130.out _) | exact HI0.out))) : gb170 ≠ g)); clear HO154; clear HO166; clear HI0; clear BK130; clear HK; clear HB; have HO154 := n0_; have HO166 := n1_; have HI0 := n2_; have BK130 := n3_; have HK := n4_; have HB := n5_; have BK170 := n6_; have GW170 := n7_; have GE170 := n8_; have NB130_170 := n9_; have NB170_130 := n10_; have NB0_170 := n11_; have NB170_0 := n12_; clear n0_ n1_ n2_ n3_ n4_ n5_ n6_ n7_ n8_ n9_ n10_ n11_ n12_; clear hb hbox hg; have hnb38 := NB170_130.out; have hnc38 := NB130_170.out; have hnb39 := NB170_0.out; have hnc39 := NB0_170.out; obtain ⟨hcz40_0, hcz40_1, hcz40_2, hfz40_0, hfz40_1, hfz40_2⟩ := bc3_ BK170.out; have hnb41 := NB130_0.out; have hnc41 := NB0_130.out; obtain ⟨hcz42_0, hcz42_1, hcz42_2, hfz42_0, hfz42_1, hfz42_2⟩ := bc3_ BK130.out))
  refine bodyPost_ret (results_cell_row rfl _ _ gb130 29 #[.bool true, .int .i64 t155, .int .i64 t167] (0, 0) _ rfl (by refine bk_ ?_; refine blk_put (cs := #[.bool true, .int .i64 t155, .int .i64 0]) ?_ 2 _ rfl; refine bk_ ?_; refine blk_put (cs := #[.bool true, .int .i64 0, .int .i64 0]) ?_ 1 _ rfl; refine bk_ ?_; refine blk_put (cs := #[.bool false, .int .i64 0, .int .i64 0]) ?_ 0 _ rfl; refine bk_ ?_; refine blk_far ?_ NB130_170.out _; refine bk_ ?_; refine blk_far ?_ NB130_170.out _; refine bk_ ?_; refine blk_far ?_ NB130_170.out _; refine bk_ ?_; exact BK130.out) Try.underlying29 rfl (by kernel_rfl)) rfl ?_
  exact ⟨pe_, by repeat (first | (with_reducible first | exact HI0.out | apply IsS159.alloc | apply IsS159.drewN | apply IsS159.drew | apply IsS159.set_1 | apply IsS159.set_2 | refine IsS159.far ?_ NB0_130.out _ | refine IsS159.far ?_ NB0_170.out _) | exact HI0.out), by repeat (first | (with_reducible first | exact HB.out | apply below_alloc | apply pw_below_drewN | apply below_drew1 | refine below_set ?_ (IsS159.ge HI0.out) | refine below_set ?_ GE130.out | refine below_set ?_ GE170.out) | exact HB.out), by repeat (first | (with_reducible first | exact HK.out | apply KeepBut.set_ | apply keep_drewN | apply keep_drew | apply keep_alloc | refine keep_far ?_ GW130.out _ | refine keep_far ?_ GW170.out _) | exact HK.out)⟩

/-! ### spec_l2Width: function 91 -/
def spec_l2Width.f (a0_0 : Bool) (a0_1 : Int) (a0_2 : Int) : Option (Int) := if a0_0 = true then (some 128) else (some 32)
set_option maxHeartbeats 8000000 in
set_option maxRecDepth 100000 in
theorem spec_l2Width.calls (a0_0 : Bool) (a0_1 : Int) (a0_2 : Int) (r : Int) (w : World) (h : spec_l2Width.f a0_0 a0_1 a0_2 = some r) :
  Calls Try.prog 91 #[.agg #[.bool a0_0, .int .i64 a0_1, .int .i64 a0_2]] w fun e w' => e = .returned (.int .i64 r) ∧ Below w.heap.size w w' := by
 have hu29 := Try.underlying29
 have HB := Aside0.mk (Below.refl w.heap.size w)
 have H : (if a0_0 = true then (some 128) else (some 32)) = some r := h
 clear h
 by_cases c2 : a0_0 = true
 ·subst c2
  have H1 : (some 128) = some r := by rw [if_pos rfl] at H; exact H
  clear H
  have H := H1
  clear H1
  obtain rfl := Option.some.inj H
  go_enter Try.func91, Try.ntmps91
  go_wp2_with (first | ((with_reducible refine gate_dst (N := 1) rfl ?_); refine box_event ?hg (N := 1) ?hd (cs := #[.bool true, .int .i64 a0_1, .int .i64 a0_2]) (t := 29) ?hr ?_; (case hd => rfl); (case hg => rfl); (case hr => first | (go_simp; done) | (go_simp; rfl)); intro gb171 hg w3 hbox hb; have n0_ := Aside0.mk (below_step (hb_ HB.out) hb); have n1_ := Aside0.mk (hbox); have n2_ := bg_ hg (below_size (hb_ HB.out)); have n3_ := bg_ hg (below_size (hb_ HB.out)); clear HB; have HB := n0_; have BK171 := n1_; have GW171 := n2_; have GE171 := n3_; clear n0_ n1_ n2_ n3_; clear hb hbox hg; obtain ⟨hcz4_0, hcz4_1, hcz4_2, hfz4_0, hfz4_1, hfz4_2⟩ := bc3_ BK171.out))
  go_ret
  exact ⟨pe_, hc_ HB.out GE171.out⟩
 ·replace c2 := Bool.eq_false_iff.mpr c2
  subst c2
  have H1 : (some 32) = some r := by rw [if_neg (show ¬ (false = true) by decide)] at H; exact H
  clear H
  have H := H1
  clear H1
  obtain rfl := Option.some.inj H
  go_enter Try.func91, Try.ntmps91
  go_wp2_with (first | ((with_reducible refine gate_dst (N := 1) rfl ?_); refine box_event ?hg (N := 1) ?hd (cs := #[.bool false, .int .i64 a0_1, .int .i64 a0_2]) (t := 29) ?hr ?_; (case hd => rfl); (case hg => rfl); (case hr => first | (go_simp; done) | (go_simp; rfl)); intro gb171 hg w5 hbox hb; have n0_ := Aside0.mk (below_step (hb_ HB.out) hb); have n1_ := Aside0.mk (hbox); have n2_ := bg_ hg (below_size (hb_ HB.out)); have n3_ := bg_ hg (below_size (hb_ HB.out)); clear HB; have HB := n0_; have BK171 := n1_; have GW171 := n2_; have GE171 := n3_; clear n0_ n1_ n2_ n3_; clear hb hbox hg; obtain ⟨hcz6_0, hcz6_1, hcz6_2, hfz6_0, hfz6_1, hfz6_2⟩ := bc3_ BK171.out))
  go_ret
  exact ⟨pe_, hc_ HB.out GE171.out⟩

/-! ### spec_l1In: function 94 -/
def spec_l1In.f (a0 : Int) (a1 : Int) (a2 : Int) : Option (Bool) := if a0 ≥ a1 then (some (decide (a0 ≤ a2))) else (some false)
set_option maxHeartbeats 8000000 in
set_option maxRecDepth 100000 in
theorem spec_l1In.calls (a0 : Int) (a1 : Int) (a2 : Int) (r : Bool) (w : World) (h : spec_l1In.f a0 a1 a2 = some r) :
  Calls Try.prog 94 #[.int .i64 a0, .int .i64 a1, .int .i64 a2] w fun e w' => e = .returned (.bool r) ∧ Drawn0 w w' := by
 have H : (if a0 ≥ a1 then (some (decide (a0 ≤ a2))) else (some false)) = some r := h
 clear h
 by_cases c4 : a0 ≥ a1
 ·rw [if_pos c4] at H
  have c4b0 : decide (a1 ≤ a0) = true := decide_eq_true c4
  clear c4
  obtain rfl := Option.some.inj H
  go_enter Try.func94, Try.ntmps94
  go_wp2
  go_ret
  exact ⟨by first | rfl | (simp; done) | (simp [*]; done), by repeat (first | exact Drawn0.refl _ | apply Drawn0.step)⟩
 ·rw [if_neg c4] at H
  have c4b0 : decide (a1 ≤ a0) = false := decide_eq_false c4
  clear c4
  obtain rfl := Option.some.inj H
  go_enter Try.func94, Try.ntmps94
  go_wp2
  go_ret
  exact ⟨by first | rfl | (simp; done) | (simp [*]; done), by repeat (first | exact Drawn0.refl _ | apply Drawn0.step)⟩

/-! ### spec_AddrOk: function 93 -/
def spec_AddrOk.f (a0_0 : Bool) (a0_1 : Int) (a0_2 : Int) : Option (Bool) := if a0_0 = true then (some true) else (if a0_1 = 0 then ((spec_l1In.f a0_2 0 4294967295).bind fun t173 => (some t173)) else (some false))
set_option maxHeartbeats 8000000 in
set_option maxRecDepth 100000 in
theorem spec_AddrOk.calls (a0_0 : Bool) (a0_1 : Int) (a0_2 : Int) (r : Bool) (w : World) (h : spec_AddrOk.f a0_0 a0_1 a0_2 = some r) :
  Calls Try.prog 93 #[.agg #[.bool a0_0, .int .i64 a0_1, .int .i64 a0_2]] w fun e w' => e = .returned (.bool r) ∧ Below w.heap.size w w' := by
 have hu29 := Try.underlying29
 have HB := Aside0.mk (Below.refl w.heap.size w)
 have H : (if a0_0 = true then (some true) else (if a0_1 = 0 then ((spec_l1In.f a0_2 0 4294967295).bind fun t173 => (some t173)) else (some false))) = some r := h
 clear h
 by_cases c2 : a0_0 = true
 ·subst c2
  have H1 : (some true) = some r := by rw [if_pos rfl] at H; exact H
  clear H
  have H := H1
  clear H1
  obtain rfl := Option.some.inj H
  go_enter Try.func93, Try.ntmps93
  go_wp2_with (first | ((with_reducible refine gate_dst (N := 1) rfl ?_); refine box_event ?hg (N := 1) ?hd (cs := #[.bool true, .int .i64 a0_1, .int .i64 a0_2]) (t := 29) ?hr ?_; (case hd => rfl); (case hg => rfl); (case hr => first | (go_simp; done) | (go_simp; rfl)); intro gb172 hg w3 hbox hb; have n0_ := Aside0.mk (below_step (hb_ HB.out) hb); have n1_ := Aside0.mk (hbox); have n2_ := bg_ hg (below_size (hb_ HB.out)); have n3_ := bg_ hg (below_size (hb_ HB.out)); clear HB; have HB := n0_; have BK172 := n1_; have GW172 := n2_; have GE172 := n3_; clear n0_ n1_ n2_ n3_; clear hb hbox hg; obtain ⟨hcz4_0, hcz4_1, hcz4_2, hfz4_0, hfz4_1, hfz4_2⟩ := bc3_ BK172.out))
  go_ret
  exact ⟨pe_, hc_ HB.out GE172.out⟩
 ·replace c2 := Bool.eq_false_iff.mpr c2
  subst c2
  have H1 : (if a0_1 = 0 then ((spec_l1In.f a0_2 0 4294967295).bind fun t173 => (some t173)) else (some false)) = some r := by rw [if_neg (show ¬ (false = true) by decide)] at H; exact H
  clear H
  have H := H1
  clear H1
  by_cases c5 : a0_1 = 0
  ·rw [if_pos c5] at H
   have c5b0 : (a0_1 == 0) = true := beq_iff_eq.mpr c5
   have c5b1 : (a0_1 != 0) = false := bne_eq_false_iff_eq.mpr c5
   clear c5
   replace H := Option.bind_eq_some_iff.mp H
   obtain ⟨t173, A60, H⟩ := H
   replace H : (some t173) = some r := H
   have A6 := Aside0.mk A60
   clear A60
   obtain rfl := Option.some.inj H
   go_enter Try.func93, Try.ntmps93
   go_wp2_with (first | ((with_reducible refine gate_dst (N := 1) rfl ?_); refine box_event ?hg (N := 1) ?hd (cs := #[.bool false, .int .i64 a0_1, .int .i64 a0_2]) (t := 29) ?hr ?_; (case hd => rfl); (case hg => rfl); (case hr => first | (go_simp; done) | (go_simp; rfl)); intro gb172 hg w7 hbox hb; have n0_ := Aside0.mk (below_step (hb_ HB.out) hb); have n1_ := Aside0.mk (hbox); have n2_ := bg_ hg (below_size (hb_ HB.out)); have n3_ := bg_ hg (below_size (hb_ HB.out)); clear HB; have HB := n0_; have BK172 := n1_; have GW172 := n2_; have GE172 := n3_; clear n0_ n1_ n2_ n3_; clear hb hbox hg; obtain ⟨hcz8_0, hcz8_1, hcz8_2, hfz8_0, hfz8_1, hfz8_2⟩ := bc3_ BK172.out) | (go_at_call 94; (with_reducible refine (spec_l1In.calls a0_2 0 4294967295 t173 _ A6.out).mono ?_); rintro e w' ⟨rfl, ⟨nd, rfl⟩⟩))
   go_ret
   exact ⟨pe_, hc_ HB.out GE172.out⟩
  ·rw [if_neg c5] at H
   have c5b0 : (a0_1 == 0) = false := beq_eq_false_iff_ne.mpr c5
   have c5b1 : (a0_1 != 0) = true := bne_iff_ne.mpr c5
   obtain rfl := Option.some.inj H
   go_enter Try.func93, Try.ntmps93
   go_wp2_with (first | ((with_reducible refine gate_dst (N := 1) rfl ?_); refine box_event ?hg (N := 1) ?hd (cs := #[.bool false, .int .i64 a0_1, .int .i64 a0_2]) (t := 29) ?hr ?_; (case hd => rfl); (case hg => rfl); (case hr => first | (go_simp; done) | (go_simp; rfl)); intro gb172 hg w9 hbox hb; have n0_ := Aside0.mk (below_step (hb_ HB.out) hb); have n1_ := Aside0.mk (hbox); have n2_ := bg_ hg (below_size (hb_ HB.out)); have n3_ := bg_ hg (below_size (hb_ HB.out)); clear HB; have HB := n0_; have BK172 := n1_; have GW172 := n2_; have GE172 := n3_; clear n0_ n1_ n2_ n3_; clear hb hbox hg; obtain ⟨hcz10_0, hcz10_1, hcz10_2, hfz10_0, hfz10_1, hfz10_2⟩ := bc3_ BK172.out))
   go_ret
   exact ⟨pe_, hc_ HB.out GE172.out⟩

/-! ### spec_l2High: function 154 -/
def spec_l2High.f (a0 : Int) : Option (Int) := if a0 ≤ 0 then (some 0) else (if a0 ≥ 64 then (some 18446744073709551615) else (if 0 ≤ (IntKind.u64.wrap (wrap64 (64 - a0))) then (some (shl .u64 18446744073709551615 (IntKind.u64.wrap (wrap64 (64 - a0))))) else (none)))
set_option maxHeartbeats 8000000 in
set_option maxRecDepth 100000 in
theorem spec_l2High.calls (a0 : Int) (r : Int) (w : World) (h : spec_l2High.f a0 = some r) :
  Calls Try.prog 154 #[.int .i64 a0] w fun e w' => e = .returned (.int .u64 r) ∧ Drawn0 w w' := by
 have H : (if a0 ≤ 0 then (some 0) else (if a0 ≥ 64 then (some 18446744073709551615) else (if 0 ≤ (IntKind.u64.wrap (wrap64 (64 - a0))) then (some (shl .u64 18446744073709551615 (IntKind.u64.wrap (wrap64 (64 - a0))))) else (none)))) = some r := h
 clear h
 by_cases c2 : a0 ≤ 0
 ·rw [if_pos c2] at H
  have c2b0 : decide (a0 ≤ 0) = true := decide_eq_true c2
  clear c2
  obtain rfl := Option.some.inj H
  go_enter Try.func154, Try.ntmps154
  go_wp2
  go_ret
  exact ⟨by first | rfl | (simp; done) | (simp [*]; done), by repeat (first | exact Drawn0.refl _ | apply Drawn0.step)⟩
 ·rw [if_neg c2] at H
  have c2b0 : decide (a0 ≤ 0) = false := decide_eq_false c2
  clear c2
  by_cases c3 : a0 ≥ 64
  ·rw [if_pos c3] at H
   have c3b0 : decide (64 ≤ a0) = true := decide_eq_true c3
   clear c3
   obtain rfl := Option.some.inj H
   go_enter Try.func154, Try.ntmps154
   go_wp2
   go_ret
   exact ⟨by first | rfl | (simp; done) | (simp [*]; done), by repeat (first | exact Drawn0.refl _ | apply Drawn0.step)⟩
  ·rw [if_neg c3] at H
   have c3b0 : decide (64 ≤ a0) = false := decide_eq_false c3
   clear c3
   obtain ⟨ji4, hji4⟩ : ∃ j_ : Int, (IntKind.u64.wrap (wrap64 (64 - a0))) = j_ := ⟨_, rfl⟩
   replace H : (if 0 ≤ (ji4) then (some (shl .u64 18446744073709551615 (ji4))) else (none)) = some r := by first | (rw [hji4] at H; exact H) | (simp only [hji4] at H ⊢; exact H)
   by_cases c5 : 0 ≤ (ji4)
   ·rw [if_pos c5] at H
    have c5b0 := eq_true c5
    have c5b1 : decide (0 ≤ (ji4)) = true := decide_eq_true c5
    clear c5
    obtain ⟨ji6, hji6⟩ : ∃ j_ : Int, (shl .u64 18446744073709551615 (ji4)) = j_ := ⟨_, rfl⟩
    replace H : (some ji6) = some r := by first | (rw [hji6] at H; exact H) | (simp only [hji6] at H ⊢; exact H)
    have hji6_ : (IntKind.u64.wrap (18446744073709551615 * 2 ^ min (ji4).toNat 64)) = ji6 := hji6
    have hji6z : (ji4) ≤ 64 → (IntKind.u64.wrap (18446744073709551615 * 2 ^ (ji4).toNat)) = ji6 := shl_small hji6
    obtain rfl := Option.some.inj H
    go_enter Try.func154, Try.ntmps154
    go_wp2
    go_ret
    exact ⟨by first | rfl | (simp; done) | (simp only [← hji4, ← hji6] <;> (first | rfl | simp)) | (simp [*]; done), by repeat (first | exact Drawn0.refl _ | apply Drawn0.step)⟩
   ·rw [if_neg c5] at H
    exact absurd H (by simp)

end Go.Proofs.Ythakdhdoeejkmaa.QFnHalved
