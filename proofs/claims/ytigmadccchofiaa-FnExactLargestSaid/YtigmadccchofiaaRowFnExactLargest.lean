/-
The law FnExactLargest is true at every input.
Conditions: none.
-/
import Derived.Test.YtigmadccchofiaaRows
import Derived.Test.YtigmadccchofiaaQFnExactLargestx14
import Derived.Test.YtigmadccchofiaaPureFnExactLargest
import Derived.WalkKit
import Derived.ProofKit
import Derived.OpenShut
import Derived.ShutString
import Derived.ChangeOld
import Derived.Below
import Derived.SizedLaws
import Derived.Deep.Slices
namespace Go.Proofs.Ytigmadccchofiaa.fnExactLargest
open Go.ChangeShapes Go.WideShapes Go.ChangeAt Go.RowKit
open Go.ChangeMaps (open_string shut_string)
open Go.Proofs.Ytigmadccchofiaa.QFnExactLargest Go.Proofs.YtigmadccchofiaaW.PrintWords
set_option linter.unusedVariables false
set_option linter.unusedSimpArgs false
theorem own : ownKnob Try.prog.godebug = none := by kernel_rfl
theorem laidOut : laidOutB Try.prog = true := by kernel_rfl
section
variable {P : Program} {w : World} {r : Reach} {base : Nat} {t : TypeId} {v : Value}
theorem cell_bool (ht : P.underlying t = some .bool) (h : Cell.okWide P w r base t v) : ∃ b, v = .bool b := okWide_bool ht (by simpa [Value.okWide, ht] using h)
theorem cell_int {k : IntKind} (ht : P.underlying t = some (.int k)) (h : Cell.okWide P w r base t v) : ∃ n, v = .int k n ∧ (Lit.int k n).wf = true := by
 obtain ⟨n, rfl⟩ := okWide_int ht (by simpa [Value.okWide, ht] using h)
 simp only [Cell.okWide, ht] at h
 exact ⟨n, rfl, by simpa [Cell.ok, ht, IntKind.has, Lit.wf] using h⟩
end
set_option maxRecDepth 100000 in
theorem open_30 {w : World} {r : Reach} {base : Nat} {v : Value} (h : Value.okWide Try.prog w r base 30 v) :
  ∃ (b0 : Bool) (b1 : Int) (b2 : Int) (b3 : Int), v = .agg #[.bool b0, .int .i64 b1, .int .i64 b2, .int .i64 b3] ∧ (Lit.int .i64 b1).wf = true ∧ (Lit.int .i64 b2).wf = true ∧ (Lit.int .i64 b3).wf = true := by
 simp only [Value.okWide, Try.underlying30] at h
 obtain ⟨cs, rfl, hsz, ts, hts, _, hc⟩ := h
 have e1 : Try.prog.cellTypes Try.prog.depth 30 = some [4, 3, 3, 3] := by kernel_rfl
 have e2 : Try.prog.cellsOf 30 = 4 := by kernel_rfl
 rw [e1] at hts
 obtain rfl := Option.some.inj hts
 rw [e2] at hsz
 obtain ⟨l⟩ := cs
 match l, hsz, hc with
 | [c0, c1, c2, c3], _, hc =>
  obtain ⟨u0, hu0, g0⟩ := hc 0 c0 rfl
  obtain rfl : 4 = u0 := Option.some.inj hu0
  obtain ⟨b0, rfl⟩ := cell_bool Try.underlying4 g0
  obtain ⟨u1, hu1, g1⟩ := hc 1 c1 rfl
  obtain rfl : 3 = u1 := Option.some.inj hu1
  obtain ⟨b1, rfl, f1⟩ := cell_int Try.underlying3 g1
  obtain ⟨u2, hu2, g2⟩ := hc 2 c2 rfl
  obtain rfl : 3 = u2 := Option.some.inj hu2
  obtain ⟨b2, rfl, f2⟩ := cell_int Try.underlying3 g2
  obtain ⟨u3, hu3, g3⟩ := hc 3 c3 rfl
  obtain rfl : 3 = u3 := Option.some.inj hu3
  obtain ⟨b3, rfl, f3⟩ := cell_int Try.underlying3 g3
  exact ⟨b0, b1, b2, b3, rfl, f1, f2, f3⟩
/-- A slice that came in, read as a list. -/
theorem slice_of {α : Type} {H : Type} {enc : TypeId × Value → H} {P : Program} {w : World} {base : Nat} {spare : Nat → Bool} {held : Bool} {t e : TypeId} (d : Kd α) (G : α → Prop) (z : α) (ht : P.underlying t = some (.slice e)) (hC : P.cellsOf e = d.sz)
  (hel : ∀ (fuel : Nat) (cs : List Value) (x : DataW H × List MemPlace), DataW.trod enc P w base spare held fuel e cs = some x → ∃ y, d.K w y cs ∧ G y) {fuel : Nat} {a : Option Addr} {len cap : Nat} {x : DataW H × List MemPlace}
  (h : DataW.trod enc P w base spare held fuel t [.slice a len cap] = some x) : ∃ l : List α, l.length = len ∧ l.length ≤ cap ∧ Kd.C d w a l.length l ∧ ∀ y ∈ l, G y := by
 rcases Go.Deep.open_slice ht h with ⟨hcs, _⟩ | ⟨a', len', cap', m, n, D, Pl, hcs, _, hl, hm, hmm, _, hi⟩
 ·simp only [List.cons.injEq, Value.slice.injEq, and_true] at hcs
  obtain ⟨rfl, rfl, rfl⟩ := hcs
  exact ⟨[], rfl, Nat.zero_le _, ⟨rfl, by simp, fun h => by simp at h⟩, fun y hy => by simp at hy⟩
 ·simp only [List.cons.injEq, Value.slice.injEq, and_true] at hcs
  obtain ⟨rfl, rfl, rfl⟩ := hcs
  have hlm : len ≤ m := by rw [hmm]; split <;> omega
  have key : ∀ i : Nat, ∃ y : α, i < len → G y ∧ ∃ c, c.length = d.sz ∧ d.K w y c ∧ ∀ j u, c[j]? = some u → w.cell? (a'.add (i * d.sz + j)) = some u := by
   intro i
   by_cases hil : i < len
   ·obtain ⟨cs', hc, ht'⟩ := hi i (by omega)
    obtain ⟨y, hk, hg⟩ := hel _ _ _ ht'
    refine ⟨y, fun _ => ⟨hg, cs', d.K_len hk, hk, fun j u hu => ?_⟩⟩
    obtain ⟨_, hcl, hat⟩ := World.cells?_some hc
    have hj : j < P.cellsOf e := by
     have := (List.getElem?_eq_some_iff.1 hu).1
     omega
    have := hat j hj
    rw [Go.Deep.add_add, hC] at this
    rw [this, hu]
   ·exact ⟨z, fun h => absurd h hil⟩
  obtain ⟨f, hf⟩ := Classical.axiomOfChoice key
  have hlen : ((List.range len).map f).length = len := by simp
  refine ⟨(List.range len).map f, hlen, by omega, ?_, fun y hy => ?_⟩
  ·rw [hlen]
   refine ⟨hlen, by have := hm; unfold maxLen at this; omega, fun _ => ⟨a', rfl, fun j p hj => ?_⟩⟩
   have hjl : j < len := by
    have := (List.getElem?_eq_some_iff.1 hj).1
    omega
   simp only [List.getElem?_map, List.getElem?_range hjl, Option.map_some, Option.some.injEq] at hj
   subst hj
   obtain ⟨_, c, h1, h2, h3⟩ := hf j hjl
   exact ⟨c, h1, h2, h3⟩
  ·obtain ⟨i, hi', rfl⟩ := List.mem_map.1 hy
   exact (hf i (List.mem_range.1 hi')).1
set_option maxRecDepth 100000 in
theorem el_23 {H : Type} {enc : TypeId × Value → H} {w : World} {base : Nat} {spare : Nat → Bool} {held : Bool} {fuel : Nat} {cs : List Value} {x : DataW H × List MemPlace} (h : DataW.trod enc Try.prog w base spare held fuel 23 cs = some x) :
  ∃ y : S23, k23.K w y cs ∧ (Lit.int .i64 y.f1).wf = true ∧ (Lit.int .i64 y.f2).wf = true := by
 obtain ⟨xs, n, _, hx, hl, hxl, hf⟩ := DataW.trod_struct Try.underlying23 h
 have e2 : Try.prog.cellsOf 23 = 3 := by kernel_rfl
 rw [e2] at hl
 match cs, hl, xs, hxl, hf with
 | [c0, c1, c2], _, [y0, y1, y2], _, hf =>
  have q0 : Try.prog.cellsOf 4 = 1 := by kernel_rfl
  have g0 : DataW.trod enc Try.prog w base spare held n 4 (([c0, c1, c2].drop 0).take (Try.prog.cellsOf 4)) = some y0 := hf 0 _ rfl
  rw [q0] at g0
  obtain ⟨z0, e0k, _⟩ := DataW.trod_bool Try.underlying4 g0
  simp only [List.drop_succ_cons, List.drop_zero, List.take_succ_cons, List.take_zero, List.cons.injEq, and_true] at e0k
  have q1 : Try.prog.cellsOf 3 = 1 := by kernel_rfl
  have g1 : DataW.trod enc Try.prog w base spare held n 3 (([c0, c1, c2].drop 1).take (Try.prog.cellsOf 3)) = some y1 := hf 1 _ rfl
  rw [q1] at g1
  obtain ⟨z1, e1k, _, hg1⟩ := DataW.trod_int Try.underlying3 g1
  simp only [List.drop_succ_cons, List.drop_zero, List.take_succ_cons, List.take_zero, List.cons.injEq, and_true] at e1k
  have q2 : Try.prog.cellsOf 3 = 1 := by kernel_rfl
  have g2 : DataW.trod enc Try.prog w base spare held n 3 (([c0, c1, c2].drop 2).take (Try.prog.cellsOf 3)) = some y2 := hf 2 _ rfl
  rw [q2] at g2
  obtain ⟨z2, e2k, _, hg2⟩ := DataW.trod_int Try.underlying3 g2
  simp only [List.drop_succ_cons, List.drop_zero, List.take_succ_cons, List.take_zero, List.cons.injEq, and_true] at e2k
  subst e0k
  subst e1k
  subst e2k
  exact ⟨⟨z0, z1, z2⟩, k23_mk w _, hg1, hg2⟩
set_option maxRecDepth 100000 in
theorem el_30 {H : Type} {enc : TypeId × Value → H} {w : World} {base : Nat} {spare : Nat → Bool} {held : Bool} {fuel : Nat} {cs : List Value} {x : DataW H × List MemPlace} (h : DataW.trod enc Try.prog w base spare held fuel 30 cs = some x) :
  ∃ y : S30, k30.K w y cs ∧ (Lit.int .i64 y.f0.f1).wf = true ∧ (Lit.int .i64 y.f0.f2).wf = true ∧ (Lit.int .i64 y.f1).wf = true := by
 obtain ⟨xs, n, _, hx, hl, hxl, hf⟩ := DataW.trod_struct Try.underlying30 h
 have e2 : Try.prog.cellsOf 30 = 4 := by kernel_rfl
 rw [e2] at hl
 match cs, hl, xs, hxl, hf with
 | [c0, c1, c2, c3], _, [y0, y1], _, hf =>
  have q0 : Try.prog.cellsOf 23 = 3 := by kernel_rfl
  have g0 : DataW.trod enc Try.prog w base spare held n 23 (([c0, c1, c2, c3].drop 0).take (Try.prog.cellsOf 23)) = some y0 := hf 0 _ rfl
  rw [q0] at g0
  obtain ⟨z0, hk0, hg0⟩ := el_23 g0
  have e0k := k23_open hk0
  simp only [List.drop_succ_cons, List.drop_zero, List.take_succ_cons, List.take_zero, List.cons.injEq, and_true] at e0k
  have q1 : Try.prog.cellsOf 3 = 1 := by kernel_rfl
  have g1 : DataW.trod enc Try.prog w base spare held n 3 (([c0, c1, c2, c3].drop 3).take (Try.prog.cellsOf 3)) = some y1 := hf 1 _ rfl
  rw [q1] at g1
  obtain ⟨z1, e1k, _, hg1⟩ := DataW.trod_int Try.underlying3 g1
  simp only [List.drop_succ_cons, List.drop_zero, List.take_succ_cons, List.take_zero, List.cons.injEq, and_true] at e1k
  obtain ⟨rfl, rfl, rfl⟩ := e0k
  subst e1k
  exact ⟨⟨z0, z1⟩, k30_mk w _, hg0.1, hg0.2, hg1⟩
set_option maxRecDepth 100000 in
theorem lifted (os : Os) (started : os.Started) (H : Type) (enc : TypeId × Value → H) :
  ReturnsInHanded {} Try.checked os 14 .any (Rows.fnExactLargestSpec.pre6 enc Try.prog Try.f14 Rows.fnExactLargestRow.domain false) (Rows.fnExactLargestSpec.post enc Try.prog Try.f14 false true false false) := by
 refine returnsInHanded_of_change_sized (C := Try.checked) own started (by kernel_rfl) Try.func14
  (ChangeSpec.witness6 (enc := enc) (C := Try.checked) false ⟨#[], #[.agg #[.bool false, .int .i64 0, .int .i64 0, .int .i64 0], .slice none 0 0], []⟩ 8 (by kernel_rfl) (by kernel_rfl) (by kernel_rfl) (by kernel_rfl)) ?_
 intro W base args ds gs before hval0 hW hcnd hsz0 _
 have hsz : (DataW.weightsEach Try.prog (Try.f14.params.toList ++ Rows.fnExactLargestSpec.plain.varTypes Try.prog) (ds ++ gs)).all (· ≤ reachBytes) = true := hsz0
 have hval : ∀ (j : Nat) t v, Try.f14.params[j]? = some t → args[j]? = some v → Value.okWide Try.prog W .any base t v := hval0
 have hW' := hW
 obtain ⟨p, q, hA0, hV, rfl, hfz, hnd⟩ := hW
 have hA : DataW.TrodAll enc Try.prog W 0 (fun _ => true) true Try.f14.params.toList args.toList ds p := hA0
 rw [Try.params14] at hA hval hsz
 obtain ⟨v0, vs0, d0, ds0, p0, q0, hargs, rfl, rfl, h0, r0⟩ := trodAll_cons hA
 obtain ⟨v1, vs1, d1, ds1, p1, q1, rfl, rfl, rfl, h1, r1⟩ := trodAll_cons r0
 obtain ⟨rfl, rfl, rfl⟩ := trodAll_nil r1
 obtain rfl : args = #[v0, v1] := by cases args; simp_all
 obtain ⟨rfl, rfl⟩ := trodVars_none hV
 have k0 := h0
 have lt0 : ∀ x ∈ p0, x.block < W.heap.size := by obtain ⟨m, hm⟩ := k0; exact DataW.trod_lt m _ _ _ hm
 obtain ⟨a0_0, a0_1, a0_2, a0_3, rfl, w0_1, w0_2, w0_3⟩ := open_30 (hval 0 30 v0 rfl rfl)
 have k1 := h1
 have lt1 : ∀ x ∈ p1, x.block < W.heap.size := by obtain ⟨m, hm⟩ := k1; exact DataW.trod_lt m _ _ _ hm
 obtain ⟨A1, n1, c1, rfl⟩ := okWide_slice Try.underlying67 (hval 1 67 v1 rfl rfl)
 obtain ⟨fuel1, hf1⟩ := h1
 rw [show (Value.slice A1 n1 c1).cells.toList = [.slice A1 n1 c1] from rfl] at hf1
 obtain ⟨l1, e1, hc1, hr1, hg1⟩ := slice_of k30 (fun y => (Lit.int .i64 y.f0.f1).wf = true ∧ (Lit.int .i64 y.f0.f2).wf = true ∧ (Lit.int .i64 y.f1).wf = true) z30 Try.underlying67 (by kernel_rfl) (fun _ _ _ h => el_30 h) hf1
 subst e1
 clear hA0 hval0 hsz0 hsz
 obtain ⟨k, h⟩ := Pure.FnExactLargest a0_0 a0_1 a0_2 a0_3 l1 w0_1 w0_2 w0_3 hg1 hr1.2.1
 refine (QFnExactLargest.laws_FnExactLargest.calls k a0_0 a0_1 a0_2 a0_3 _ _ l1 true W hr1 hc1 h).mono fun e W' ⟨he, bel⟩ => ?_
 subst he
 exact ⟨_, rfl, _, _, _, [], _, [], hW', trodAll_mk1 (shut_bool Try.underlying4 _), (trodAll_cons_mk (Below.trod laidOut (by kernel_rfl) (of_decide_eq_true (by kernel_rfl)) k0 bel lt0) (trodAll_cons_mk (Below.trod laidOut (by kernel_rfl) (of_decide_eq_true (by kernel_rfl)) k1 bel lt1) trodAll_mk0)), rfl, bel.frame _, fun h => by cases h⟩
theorem over : Rows.fnExactLargestRow.holds Try.pinned (OpenSpec.ofChange Rows.fnExactLargestSpec) :=
 OpenClaim.holds_of_wide 14 Try.f14 rfl rfl rfl rfl rfl rfl rfl ⟨rfl, rfl, rfl, rfl, rfl⟩ rfl rfl rfl rfl rfl (by kernel_rfl) Try.func14 (by kernel_rfl)
  (of_decide_eq_true (by kernel_rfl)) (by unfold Func.isWrapper; first | (rw [if_pos (by decide +kernel)]; kernel_rfl) | (rw [if_neg (by decide +kernel)]; exact ⟨rfl, rfl⟩))
  (fun os started H enc _ => lifted os started H enc)
theorem proved : Rows.FnExactLargestSaid := over
#print axioms proved
end Go.Proofs.Ytigmadccchofiaa.fnExactLargest
namespace Go.Proofs.Ytigmadccchofiaa
/-- The row, under a short name, for the claim. -/
theorem fnExactLargest_holds : Rows.FnExactLargestSaid := fnExactLargest.proved
end Go.Proofs.Ytigmadccchofiaa
