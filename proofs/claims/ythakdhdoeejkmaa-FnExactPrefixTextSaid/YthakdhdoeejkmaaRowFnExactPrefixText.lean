/-
The law FnExactPrefixText is true at every input.
Conditions: none.
-/
import Derived.Test.YthakdhdoeejkmaaRows
import Derived.Test.YthakdhdoeejkmaaQFnExactPrefixTextx9
import Derived.Test.YthakdhdoeejkmaaPureFnExactPrefixText
import Derived.WalkKit
import Derived.ProofKit
import Derived.OpenShut
import Derived.ShutString
import Derived.ChangeOld
import Derived.Below
import Derived.SizedLaws
namespace Go.Proofs.Ythakdhdoeejkmaa.fnExactPrefixText
open Go.ChangeShapes Go.WideShapes Go.ChangeAt Go.RowKit
open Go.ChangeMaps (open_string shut_string)
set_option linter.unusedVariables false
set_option linter.unusedSimpArgs false
theorem own : ownKnob Try.prog.godebug = none := by kernel_rfl
theorem laidOut : laidOutB Try.prog = true := by kernel_rfl
section
variable {P : Program} {w : World} {r : Reach} {base : Nat} {t : TypeId} {v : Value}
theorem cell_bool (ht : P.underlying t = some .bool) (h : Cell.okWide P w r base t v) : ∃ b, v = .bool b := okWide_bool ht (by simpa [Value.okWide, ht] using h)
theorem cell_int {k : IntKind} (ht : P.underlying t = some (.int k)) (h : Cell.okWide P w r base t v) : ∃ n, v = .int k n ∧ (Lit.int k n).wf = true := by
  obtain ⟨n, rfl⟩ := okWide_int ht (by simpa [Value.okWide, ht] using h)
  simp only [Cell.okWide, ht] at h
  exact ⟨n, rfl, by simpa [Cell.ok, ht, IntKind.has, Lit.wf] using h⟩
end
set_option maxRecDepth 100000 in
theorem open_25 {w : World} {r : Reach} {base : Nat} {v : Value} (h : Value.okWide Try.prog w r base 25 v) :
    ∃ (b0 : Bool) (b1 : Int) (b2 : Int) (b3 : Int), v = .agg #[.bool b0, .int .i64 b1, .int .i64 b2, .int .i64 b3] ∧ (Lit.int .i64 b1).wf = true ∧ (Lit.int .i64 b2).wf = true ∧ (Lit.int .i64 b3).wf = true := by
  simp only [Value.okWide, Try.underlying25] at h
  obtain ⟨cs, rfl, hsz, ts, hts, _, hc⟩ := h
  have e1 : Try.prog.cellTypes Try.prog.depth 25 = some [4, 3, 3, 3] := by kernel_rfl
  have e2 : Try.prog.cellsOf 25 = 4 := by kernel_rfl
  rw [e1] at hts
  obtain rfl := Option.some.inj hts
  rw [e2] at hsz
  obtain ⟨l⟩ := cs
  match l, hsz, hc with
  | [c0, c1, c2, c3], _, hc =>
    obtain ⟨u0, hu0, g0⟩ := hc 0 c0 rfl
    obtain rfl : 4 = u0 := Option.some.inj hu0
    obtain ⟨b0, rfl⟩ := cell_bool Try.underlying4 g0
    obtain ⟨u1, hu1, g1⟩ := hc 1 c1 rfl
    obtain rfl : 3 = u1 := Option.some.inj hu1
    obtain ⟨b1, rfl, f1⟩ := cell_int Try.underlying3 g1
    obtain ⟨u2, hu2, g2⟩ := hc 2 c2 rfl
    obtain rfl : 3 = u2 := Option.some.inj hu2
    obtain ⟨b2, rfl, f2⟩ := cell_int Try.underlying3 g2
    obtain ⟨u3, hu3, g3⟩ := hc 3 c3 rfl
    obtain rfl : 3 = u3 := Option.some.inj hu3
    obtain ⟨b3, rfl, f3⟩ := cell_int Try.underlying3 g3
    exact ⟨b0, b1, b2, b3, rfl, f1, f2, f3⟩
set_option maxRecDepth 100000 in
theorem lifted (os : Os) (started : os.Started) (H : Type) (enc : TypeId × Value → H) :
    ReturnsInHanded {} Try.checked os 5 .any (Rows.fnExactPrefixTextSpec.pre6 enc Try.prog Try.f5 Rows.fnExactPrefixTextRow.domain false) (Rows.fnExactPrefixTextSpec.post enc Try.prog Try.f5 false true false false) := by
  refine returnsInHanded_of_change_sized (C := Try.checked) own started (by kernel_rfl) Try.func5
    (ChangeSpec.witness6 (enc := enc) (C := Try.checked) false ⟨#[], #[.agg #[.bool false, .int .i64 0, .int .i64 0, .int .i64 0]], []⟩ 8 (by kernel_rfl) (by kernel_rfl) (by kernel_rfl) (by kernel_rfl)) ?_
  intro W base args ds gs before hval0 hW hcnd hsz0 _
  have hsz : (DataW.weightsEach Try.prog (Try.f5.params.toList ++ Rows.fnExactPrefixTextSpec.plain.varTypes Try.prog) (ds ++ gs)).all (· ≤ reachBytes) = true := hsz0
  have hval : ∀ (j : Nat) t v, Try.f5.params[j]? = some t → args[j]? = some v → Value.okWide Try.prog W .any base t v := hval0
  have hW' := hW
  obtain ⟨p, q, hA0, hV, rfl, hfz, hnd⟩ := hW
  have hA : DataW.TrodAll enc Try.prog W 0 (fun _ => true) true Try.f5.params.toList args.toList ds p := hA0
  rw [Try.params5] at hA hval hsz
  obtain ⟨v0, vs0, d0, ds0, p0, q0, hargs, rfl, rfl, h0, r0⟩ := trodAll_cons hA
  obtain ⟨rfl, rfl, rfl⟩ := trodAll_nil r0
  obtain rfl : args = #[v0] := by cases args; simp_all
  obtain ⟨rfl, rfl⟩ := trodVars_none hV
  have k0 := h0
  have lt0 : ∀ x ∈ p0, x.block < W.heap.size := by obtain ⟨m, hm⟩ := k0; exact DataW.trod_lt m _ _ _ hm
  obtain ⟨a0_0, a0_1, a0_2, a0_3, rfl, w0_1, w0_2, w0_3⟩ := open_25 (hval 0 25 v0 rfl rfl)
  clear hA0 hval0 hsz0 hsz
  obtain ⟨k, h⟩ := Pure.FnExactPrefixText a0_0 a0_1 a0_2 a0_3 w0_1 w0_2 w0_3
  refine (QFnExactPrefixText.laws_FnExactPrefixText.calls k a0_0 a0_1 a0_2 a0_3 true W  h).mono fun e W' ⟨he, bel⟩ => ?_
  subst he
  exact ⟨_, rfl, _, _, _, [], _, [], hW', trodAll_mk1 (shut_bool Try.underlying4 _), (trodAll_cons_mk (Below.trod laidOut (by kernel_rfl) (of_decide_eq_true (by kernel_rfl)) k0 bel lt0) trodAll_mk0), rfl, bel.frame _, fun h => by cases h⟩
theorem over : Rows.fnExactPrefixTextRow.holds Try.pinned (OpenSpec.ofChange Rows.fnExactPrefixTextSpec) :=
  OpenClaim.holds_of_wide 5 Try.f5 rfl rfl rfl rfl rfl rfl rfl ⟨rfl, rfl, rfl, rfl, rfl⟩ rfl rfl rfl rfl rfl (by kernel_rfl) Try.func5 (by kernel_rfl)
    (of_decide_eq_true (by kernel_rfl)) (by unfold Func.isWrapper; first | (rw [if_pos (by decide +kernel)]; kernel_rfl) | (rw [if_neg (by decide +kernel)]; exact ⟨rfl, rfl⟩))
    (fun os started H enc _ => lifted os started H enc)
theorem proved : Rows.FnExactPrefixTextSaid := over
#print axioms proved
end Go.Proofs.Ythakdhdoeejkmaa.fnExactPrefixText
namespace Go.Proofs.Ythakdhdoeejkmaa
/-- The row, under a short name, for the claim. -/
theorem fnExactPrefixText_holds : Rows.FnExactPrefixTextSaid := fnExactPrefixText.proved
end Go.Proofs.Ythakdhdoeejkmaa
