/-
The law FnFirstAddr is true at every input.
Conditions: none.
-/
import Derived.Test.YthakdhdoeejkmaaRows
import Derived.Test.YthakdhdoeejkmaaQFnFirstAddrx15
import Derived.Test.YthakdhdoeejkmaaPureFnFirstAddr
import Derived.WalkKit
import Derived.ProofKit
import Derived.OpenShut
import Derived.ShutString
import Derived.ChangeOld
import Derived.Below
import Derived.SizedLaws
import Derived.Deep.Slices
namespace Go.Proofs.Ythakdhdoeejkmaa.fnFirstAddr
open Go.ChangeShapes Go.WideShapes Go.ChangeAt Go.RowKit
open Go.ChangeMaps (open_string shut_string)
open Go.Proofs.Ythakdhdoeejkmaa.QFnFirstAddr Go.Proofs.YthakdhdoeejkmaaW.PrintWords
set_option linter.unusedVariables false
set_option linter.unusedSimpArgs false
theorem own : ownKnob Try.prog.godebug = none := by kernel_rfl
theorem laidOut : laidOutB Try.prog = true := by kernel_rfl
section
variable {P : Program} {w : World} {r : Reach} {base : Nat} {t : TypeId} {v : Value}
theorem cell_bool (ht : P.underlying t = some .bool) (h : Cell.okWide P w r base t v) : ∃ b, v = .bool b := okWide_bool ht (by simpa [Value.okWide, ht] using h)
theorem cell_int {k : IntKind} (ht : P.underlying t = some (.int k)) (h : Cell.okWide P w r base t v) : ∃ n, v = .int k n ∧ (Lit.int k n).wf = true := by
 obtain ⟨n, rfl⟩ := okWide_int ht (by simpa [Value.okWide, ht] using h)
 simp only [Cell.okWide, ht] at h
 exact ⟨n, rfl, by simpa [Cell.ok, ht, IntKind.has, Lit.wf] using h⟩
end
/-- A slice that came in, read as a list. -/
theorem slice_of {α : Type} {H : Type} {enc : TypeId × Value → H} {P : Program} {w : World} {base : Nat} {spare : Nat → Bool} {held : Bool} {t e : TypeId} (d : Kd α) (G : α → Prop) (z : α) (ht : P.underlying t = some (.slice e)) (hC : P.cellsOf e = d.sz)
  (hel : ∀ (fuel : Nat) (cs : List Value) (x : DataW H × List MemPlace), DataW.trod enc P w base spare held fuel e cs = some x → ∃ y, d.K w y cs ∧ G y) {fuel : Nat} {a : Option Addr} {len cap : Nat} {x : DataW H × List MemPlace}
  (h : DataW.trod enc P w base spare held fuel t [.slice a len cap] = some x) : ∃ l : List α, l.length = len ∧ l.length ≤ cap ∧ Kd.C d w a l.length l ∧ ∀ y ∈ l, G y := by
 rcases Go.Deep.open_slice ht h with ⟨hcs, _⟩ | ⟨a', len', cap', m, n, D, Pl, hcs, _, hl, hm, hmm, _, hi⟩
 ·simp only [List.cons.injEq, Value.slice.injEq, and_true] at hcs
  obtain ⟨rfl, rfl, rfl⟩ := hcs
  exact ⟨[], rfl, Nat.zero_le _, ⟨rfl, by simp, fun h => by simp at h⟩, fun y hy => by simp at hy⟩
 ·simp only [List.cons.injEq, Value.slice.injEq, and_true] at hcs
  obtain ⟨rfl, rfl, rfl⟩ := hcs
  have hlm : len ≤ m := by rw [hmm]; split <;> omega
  have key : ∀ i : Nat, ∃ y : α, i < len → G y ∧ ∃ c, c.length = d.sz ∧ d.K w y c ∧ ∀ j u, c[j]? = some u → w.cell? (a'.add (i * d.sz + j)) = some u := by
   intro i
   by_cases hil : i < len
   ·obtain ⟨cs', hc, ht'⟩ := hi i (by omega)
    obtain ⟨y, hk, hg⟩ := hel _ _ _ ht'
    refine ⟨y, fun _ => ⟨hg, cs', d.K_len hk, hk, fun j u hu => ?_⟩⟩
    obtain ⟨_, hcl, hat⟩ := World.cells?_some hc
    have hj : j < P.cellsOf e := by
     have := (List.getElem?_eq_some_iff.1 hu).1
     omega
    have := hat j hj
    rw [Go.Deep.add_add, hC] at this
    rw [this, hu]
   ·exact ⟨z, fun h => absurd h hil⟩
  obtain ⟨f, hf⟩ := Classical.axiomOfChoice key
  have hlen : ((List.range len).map f).length = len := by simp
  refine ⟨(List.range len).map f, hlen, by omega, ?_, fun y hy => ?_⟩
  ·rw [hlen]
   refine ⟨hlen, by have := hm; unfold maxLen at this; omega, fun _ => ⟨a', rfl, fun j p hj => ?_⟩⟩
   have hjl : j < len := by
    have := (List.getElem?_eq_some_iff.1 hj).1
    omega
   simp only [List.getElem?_map, List.getElem?_range hjl, Option.map_some, Option.some.injEq] at hj
   subst hj
   obtain ⟨_, c, h1, h2, h3⟩ := hf j hjl
   exact ⟨c, h1, h2, h3⟩
  ·obtain ⟨i, hi', rfl⟩ := List.mem_map.1 hy
   exact (hf i (List.mem_range.1 hi')).1
set_option maxRecDepth 100000 in
theorem lifted (os : Os) (started : os.Started) (H : Type) (enc : TypeId × Value → H) :
  ReturnsInHanded {} Try.checked os 8 .any (Rows.fnFirstAddrSpec.pre6 enc Try.prog Try.f8 Rows.fnFirstAddrRow.domain false) (Rows.fnFirstAddrSpec.post enc Try.prog Try.f8 false true false false) := by
 refine returnsInHanded_of_change_sized (C := Try.checked) own started (by kernel_rfl) Try.func8
  (ChangeSpec.witness6 (enc := enc) (C := Try.checked) false ⟨#[], #[.slice none 0 0], []⟩ 8 (by kernel_rfl) (by kernel_rfl) (by kernel_rfl) (by kernel_rfl)) ?_
 intro W base args ds gs before hval0 hW hcnd hsz0 _
 have hsz : (DataW.weightsEach Try.prog (Try.f8.params.toList ++ Rows.fnFirstAddrSpec.plain.varTypes Try.prog) (ds ++ gs)).all (· ≤ reachBytes) = true := hsz0
 have hval : ∀ (j : Nat) t v, Try.f8.params[j]? = some t → args[j]? = some v → Value.okWide Try.prog W .any base t v := hval0
 have hW' := hW
 obtain ⟨p, q, hA0, hV, rfl, hfz, hnd⟩ := hW
 have hA : DataW.TrodAll enc Try.prog W 0 (fun _ => true) true Try.f8.params.toList args.toList ds p := hA0
 rw [Try.params8] at hA hval hsz
 obtain ⟨v0, vs0, d0, ds0, p0, q0, hargs, rfl, rfl, h0, r0⟩ := trodAll_cons hA
 obtain ⟨rfl, rfl, rfl⟩ := trodAll_nil r0
 obtain rfl : args = #[v0] := by cases args; simp_all
 obtain ⟨rfl, rfl⟩ := trodVars_none hV
 have k0 := h0
 have lt0 : ∀ x ∈ p0, x.block < W.heap.size := by obtain ⟨m, hm⟩ := k0; exact DataW.trod_lt m _ _ _ hm
 obtain ⟨A0, n0, c0, rfl⟩ := okWide_slice Try.underlying51 (hval 0 51 v0 rfl rfl)
 obtain ⟨fuel0, hf0⟩ := h0
 rw [show (Value.slice A0 n0 c0).cells.toList = [.slice A0 n0 c0] from rfl] at hf0
 obtain ⟨l0, e0, hc0, hr0, hg0⟩ := slice_of (Kd.int .u8) (fun y => (Lit.int .u8 y).wf = true) (0 : Int) Try.underlying51 (by kernel_rfl) (fun _ _ _ h => by obtain ⟨n, rfl, _, hw⟩ := DataW.trod_int Try.underlying5 h; exact ⟨n, rfl, hw⟩) hf0
 subst e0
 clear hA0 hval0 hsz0 hsz
 obtain ⟨k, h⟩ := Pure.FnFirstAddr l0 hg0
 refine (QFnFirstAddr.laws_FnFirstAddr.calls k _ _ l0 true W hr0 hc0 h).mono fun e W' ⟨he, bel⟩ => ?_
 subst he
 exact ⟨_, rfl, _, _, _, [], _, [], hW', trodAll_mk1 (shut_bool Try.underlying4 _), (trodAll_cons_mk (Below.trod laidOut (by kernel_rfl) (of_decide_eq_true (by kernel_rfl)) k0 bel lt0) trodAll_mk0), rfl, bel.frame _, fun h => by cases h⟩
theorem over : Rows.fnFirstAddrRow.holds Try.pinned (OpenSpec.ofChange Rows.fnFirstAddrSpec) :=
 OpenClaim.holds_of_wide 8 Try.f8 rfl rfl rfl rfl rfl rfl rfl ⟨rfl, rfl, rfl, rfl, rfl⟩ rfl rfl rfl rfl rfl (by kernel_rfl) Try.func8 (by kernel_rfl)
  (of_decide_eq_true (by kernel_rfl)) (by unfold Func.isWrapper; first | (rw [if_pos (by decide +kernel)]; kernel_rfl) | (rw [if_neg (by decide +kernel)]; exact ⟨rfl, rfl⟩))
  (fun os started H enc _ => lifted os started H enc)
theorem proved : Rows.FnFirstAddrSaid := over
#print axioms proved
end Go.Proofs.Ythakdhdoeejkmaa.fnFirstAddr
namespace Go.Proofs.Ythakdhdoeejkmaa
/-- The row, under a short name, for the claim. -/
theorem fnFirstAddr_holds : Rows.FnFirstAddrSaid := fnFirstAddr.proved
end Go.Proofs.Ythakdhdoeejkmaa
