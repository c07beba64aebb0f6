/- The law DriftSafe of the given program, for every input: the holder's trust ends ahead of the lease, whatever the clocks do within rho. -/
import Derived.Test.YtnnpaeplbjfldaaRows
import Derived.Test.YtnnpaeplbjfldaaPDriftSafex1
import Derived.Test.YtnnpaeplbjfldaaPureDriftSafe
import Derived.Test.YtnnpaeplbjfldaaOpen
import Derived.WalkKit
import Derived.ProofKit
import Derived.OpenShut
import Derived.ShutString
import Derived.ChangeOld
import Derived.Below
import Derived.SizedLaws
namespace Go.Proofs.Ytnnpaeplbjfldaa.driftSafe
open Go.ChangeShapes Go.WideShapes Go.ChangeAt Go.RowKit
open Go.ChangeMaps (open_string shut_string)
open Go.Proofs.YtnnpaeplbjfldaaW.PrintWords Go.Proofs.Ytnnpaeplbjfldaa.PDriftSafe Go.Proofs.Ytnnpaeplbjfldaa.Open
open Go.Proofs.Ytnnpaeplbjfldaa.Pure.DriftSafeAid (Fits)
set_option linter.unusedVariables false
theorem own : ownKnob Try.prog.godebug = none := by kernel_rfl
theorem laidOut : laidOutB Try.prog = true := by kernel_rfl
theorem opens39 : Opens Try.prog 39 k39 (fun y => (Lit.int .i64 y.f0).wf = true ∧ (Lit.int .i64 y.f1).wf = true) :=
  opens_struct2 (fun a b => S39.mk a b) (fun x : S39 => (x.f0, x.f1)) (fun _ _ => rfl) Try.underlying39 (by kernel_rfl) rfl rfl (by kernel_rfl) (by kernel_rfl) (opens_int Try.underlying2) (opens_int Try.underlying2)
theorem opens29 : Opens Try.prog 29 (Kd.slice 39 k39) (fun xs => xs.length * 16 ≤ 140737488351232 ∧ ∀ y ∈ xs, (Lit.int .i64 y.f0).wf = true ∧ (Lit.int .i64 y.f1).wf = true) :=
  opens_slice 39 16 Try.underlying29 (by kernel_rfl) (by kernel_rfl) (by decide) opens39
set_option maxRecDepth 100000 in
theorem lifted (os : Os) (started : os.Started) (H : Type) (enc : TypeId × Value → H) :
    ReturnsInHanded {} Try.checked os 11 .any (Rows.driftSafeSpec.pre6 enc Try.prog Try.f11 Rows.driftSafeRow.domain false) (Rows.driftSafeSpec.post enc Try.prog Try.f11 false true false false) := by
  refine returnsInHanded_of_change_sized (C := Try.checked) own started (by kernel_rfl) Try.func11
    (ChangeSpec.witness6 (enc := enc) (C := Try.checked) false ⟨#[], #[.int .i64 0, .int .i64 0, .slice none 0 0, .slice none 0 0], []⟩ 8 (by kernel_rfl) (by kernel_rfl) (by kernel_rfl) (by kernel_rfl)) ?_
  intro W base args ds gs before hval0 hW hcnd hsz0 _
  have hsz : (DataW.weightsEach Try.prog (Try.f11.params.toList ++ Rows.driftSafeSpec.plain.varTypes Try.prog) (ds ++ gs)).all (· ≤ reachBytes) = true := hsz0
  have hval : ∀ (j : Nat) t v, Try.f11.params[j]? = some t → args[j]? = some v → Value.okWide Try.prog W .any base t v := hval0
  have hW' := hW
  obtain ⟨p, q, hA0, hV, rfl, hfz, hnd⟩ := hW
  have hA : DataW.TrodAll enc Try.prog W 0 (fun _ => true) true Try.f11.params.toList args.toList ds p := hA0
  rw [Try.params11] at hA hval hsz
  obtain ⟨v0, vs0, d0, ds0, p0, q0, hargs, rfl, rfl, h0, r0⟩ := trodAll_cons hA
  obtain ⟨v1, vs1, d1, ds1, p1, q1, rfl, rfl, rfl, h1, r1⟩ := trodAll_cons r0
  obtain ⟨v2, vs2, d2, ds2, p2, q2, rfl, rfl, rfl, h2, r2⟩ := trodAll_cons r1
  obtain ⟨v3, vs3, d3, ds3, p3, q3, rfl, rfl, rfl, h3, r3⟩ := trodAll_cons r2
  obtain ⟨rfl, rfl, rfl⟩ := trodAll_nil r3
  obtain rfl : args = #[v0, v1, v2, v3] := by cases args; simp_all
  obtain ⟨rfl, rfl⟩ := trodVars_none hV
  obtain ⟨a0, rfl, rfl, rfl, w0⟩ := open_int Try.underlying3 (hval 0 3 v0 rfl rfl) h0
  obtain ⟨a1, rfl, rfl, rfl, w1⟩ := open_int Try.underlying2 (hval 1 2 v1 rfl rfl) h1
  have lt2 : ∀ x ∈ p2, x.block < W.heap.size := by obtain ⟨m, hm⟩ := h2; exact DataW.trod_lt m _ _ _ hm
  have lt3 : ∀ x ∈ p3, x.block < W.heap.size := by obtain ⟨m, hm⟩ := h3; exact DataW.trod_lt m _ _ _ hm
  obtain ⟨A2, c2, l2, rfl, hc2, hr2, hn2, ok2⟩ := open_arg opens29 (okWide_slice Try.underlying29 (hval 2 29 v2 rfl rfl)) h2 (sized_arg hsz (j := 2) rfl rfl)
  obtain ⟨A3, c3, l3, rfl, hc3, hr3, hn3, ok3⟩ := open_arg opens29 (okWide_slice Try.underlying29 (hval 3 29 v3 rfl rfl)) h3 (sized_arg hsz (j := 3) rfl rfl)
  obtain ⟨k, hk⟩ := Pure.DriftSafe a0 a1 l2 l3 ok2 ok3 (by omega) (by omega)
  clear hA0 hval0 hsz0 hsz
  refine (stopcocklaw02_DriftSafe.calls k a0 a1 A2 c2 l2 A3 c3 l3 true W hr2 hc2 hr3 hc3 hk).mono fun e W' ⟨he, bel⟩ => ?_
  subst he
  exact ⟨_, rfl, _, _, _, [], _, [], hW', trodAll_mk1 (shut_bool Try.underlying4 _), (trodAll_cons_mk (shut_int Try.underlying3 w0) (trodAll_cons_mk (shut_int Try.underlying2 w1) (trodAll_cons_mk (Below.trod laidOut (by kernel_rfl) (of_decide_eq_true (by kernel_rfl)) h2 bel lt2) (trodAll_cons_mk (Below.trod laidOut (by kernel_rfl) (of_decide_eq_true (by kernel_rfl)) h3 bel lt3) trodAll_mk0)))), rfl, bel.frame _, fun h => by cases h⟩
theorem over : Rows.driftSafeRow.holds Try.pinned (OpenSpec.ofChange Rows.driftSafeSpec) :=
  OpenClaim.holds_of_wide 11 Try.f11 rfl rfl rfl rfl rfl rfl rfl ⟨rfl, rfl, rfl, rfl, rfl⟩ rfl rfl rfl rfl rfl (by kernel_rfl) Try.func11 (by kernel_rfl)
    (of_decide_eq_true (by kernel_rfl)) (by unfold Func.isWrapper; first | (rw [if_pos (by decide +kernel)]; kernel_rfl) | (rw [if_neg (by decide +kernel)]; exact ⟨rfl, rfl⟩))
    (fun os started H enc _ => lifted os started H enc)
theorem proved : Rows.DriftSafeSaid := over
#print axioms proved
end Go.Proofs.Ytnnpaeplbjfldaa.driftSafe
namespace Go.Proofs.Ytnnpaeplbjfldaa
/-- The row, under a short name, for the claim. -/
theorem driftSafe_holds : Rows.DriftSafeSaid := driftSafe.proved
end Go.Proofs.Ytnnpaeplbjfldaa
