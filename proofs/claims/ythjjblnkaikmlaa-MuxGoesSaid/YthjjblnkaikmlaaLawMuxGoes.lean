/- The law MuxGoes of the given program, for every input: whatever is done, a session answers, does and tells just what the document says. -/
import Derived.Test.YthjjblnkaikmlaaRows
import Derived.Test.YthjjblnkaikmlaaMxN
import Derived.Test.YthjjblnkaikmlaaOpen
import Derived.WalkKit
import Derived.ProofKit
import Derived.OpenShut
import Derived.ShutString
import Derived.ChangeOld
import Derived.Below
import Derived.SizedLaws
namespace Go.Proofs.Ythjjblnkaikmlaa.muxGoes
open Go.ChangeShapes Go.WideShapes Go.ChangeAt Go.RowKit
open Go.ChangeMaps (open_string shut_string)
open Go.Proofs.YthjjblnkaikmlaaW.PrintWords Go.Proofs.Ythjjblnkaikmlaa.Open
set_option linter.unusedVariables false
theorem own : ownKnob Try.prog.godebug = none := by kernel_rfl
theorem laidOut : laidOutB Try.prog = true := by kernel_rfl
theorem opensO : Opens Try.prog 54 (Kd.slice 59 Mx.k59) (fun xs => xs.length * 56 ≤ 140737488351232 ∧ ∀ y ∈ xs, (Lit.int .i64 y.d).wf = true ∧ y.s.size ≤ 140737488351232 ∧ ((Lit.int .i64 y.r.f0).wf = true ∧ (Lit.int .i64 y.r.f1).wf = true ∧ y.r.f2.size ≤ 140737488351232)) :=
  opens_slice 59 56 Try.underlying54 (by kernel_rfl) (by kernel_rfl) (by decide) (opens_struct3 (fun a b c => (⟨a, b, c⟩ : Mx.S59)) (fun x : Mx.S59 => (x.d, x.s, x.r)) (fun _ _ _ => rfl) Try.underlying59 (by kernel_rfl) rfl rfl rfl (by kernel_rfl) (by kernel_rfl) (by kernel_rfl) (opens_int Try.underlying3) (opens_string Try.underlying9) (opens_struct3 (fun a b c => (⟨a, b, c⟩ : PMuxOnce.S42)) (fun x : PMuxOnce.S42 => (x.f0, x.f1, x.f2)) (fun _ _ _ => rfl) Try.underlying42 (by kernel_rfl) rfl rfl rfl (by kernel_rfl) (by kernel_rfl) (by kernel_rfl) (opens_int Try.underlying3) (opens_int Try.underlying3) (opens_string Try.underlying9)))
set_option maxRecDepth 100000 in
theorem lifted (os : Os) (started : os.Started) (H : Type) (enc : TypeId × Value → H) :
    ReturnsInHanded {} Try.checked os 5 .any (Rows.muxGoesSpec.pre6 enc Try.prog Try.f5 Rows.muxGoesRow.domain false) (Rows.muxGoesSpec.post enc Try.prog Try.f5 false true false false) := by
  refine returnsInHanded_of_change_sized (C := Try.checked) own started (by kernel_rfl) Try.func5
    (ChangeSpec.witness6 (enc := enc) (C := Try.checked) false ⟨#[], #[.slice none 0 0], []⟩ 8 (by kernel_rfl) (by kernel_rfl) (by kernel_rfl) (by kernel_rfl)) ?_
  intro W base args ds gs before hval0 hW hcnd hsz0 _
  have hsz : (DataW.weightsEach Try.prog (Try.f5.params.toList ++ Rows.muxGoesSpec.plain.varTypes Try.prog) (ds ++ gs)).all (· ≤ reachBytes) = true := hsz0
  have hval : ∀ (j : Nat) t v, Try.f5.params[j]? = some t → args[j]? = some v → Value.okWide Try.prog W .any base t v := hval0
  have hW' := hW
  obtain ⟨p, q, hA0, hV, rfl, hfz, hnd⟩ := hW
  have hA : DataW.TrodAll enc Try.prog W 0 (fun _ => true) true Try.f5.params.toList args.toList ds p := hA0
  rw [Try.params5] at hA hval hsz
  obtain ⟨v0, vs0, d0, ds0, p0, q0, hargs, rfl, rfl, h0, r0⟩ := trodAll_cons hA
  obtain ⟨rfl, rfl, rfl⟩ := trodAll_nil r0
  obtain rfl : args = #[v0] := by cases args; simp_all
  obtain ⟨rfl, rfl⟩ := trodVars_none hV
  have lt0 : ∀ x ∈ p0, x.block < W.heap.size := by obtain ⟨m, hm⟩ := h0; exact DataW.trod_lt m _ _ _ hm
  obtain ⟨A0, c0, l0, rfl, hc0, hr0, ok0⟩ := open_arg opensO (okWide_slice Try.underlying54 (hval 0 54 v0 rfl rfl)) h0 (sized_arg hsz (j := 0) rfl rfl)
  clear hA0 hval0 hsz0 hsz
  refine (Mx.goes_calls A0 c0 l0 W hr0 hc0).mono fun e W' ⟨he, bel⟩ => ?_
  subst he
  exact ⟨_, rfl, _, _, _, [], _, [], hW', trodAll_mk1 (shut_bool Try.underlying4 _), (trodAll_cons_mk (Below.trod laidOut (by kernel_rfl) (of_decide_eq_true (by kernel_rfl)) h0 bel lt0) trodAll_mk0), rfl, bel.frame _, fun h => by cases h⟩
theorem over : Rows.muxGoesRow.holds Try.pinned (OpenSpec.ofChange Rows.muxGoesSpec) :=
  OpenClaim.holds_of_wide 5 Try.f5 rfl rfl rfl rfl rfl rfl rfl ⟨rfl, rfl, rfl, rfl, rfl⟩ rfl rfl rfl rfl rfl (by kernel_rfl) Try.func5 (by kernel_rfl)
    (of_decide_eq_true (by kernel_rfl)) (by unfold Func.isWrapper; first | (rw [if_pos (by decide +kernel)]; kernel_rfl) | (rw [if_neg (by decide +kernel)]; exact ⟨rfl, rfl⟩))
    (fun os started H enc _ => lifted os started H enc)
theorem proved : Rows.MuxGoesSaid := over
#print axioms proved
end Go.Proofs.Ythjjblnkaikmlaa.muxGoes
namespace Go.Proofs.Ythjjblnkaikmlaa
/-- The row, under a short name, for the claim. -/
theorem muxGoes_holds : Rows.MuxGoesSaid := muxGoes.proved
end Go.Proofs.Ythjjblnkaikmlaa
