/- The law NetKeeps of the given program, for every input: what is taken was sent or doubled and not taken as often, and what is under way is the rest. -/
import Derived.Test.YtpnbeifbapcmdaaRows
import Derived.Test.YtpnbeifbapcmdaaNkC
import Derived.Test.YtpnbeifbapcmdaaOpen
import Derived.WalkKit
import Derived.ProofKit
import Derived.OpenShut
import Derived.ShutString
import Derived.ChangeOld
import Derived.Below
import Derived.SizedLaws
namespace Go.Proofs.Ytpnbeifbapcmdaa.netKeeps
open Go.ChangeShapes Go.WideShapes Go.ChangeAt Go.RowKit
open Go.ChangeMaps (open_string shut_string)
open Go.Proofs.YtpnbeifbapcmdaaW.PrintWords Go.Proofs.Ytpnbeifbapcmdaa.Open
set_option linter.unusedVariables false
theorem own : ownKnob Try.prog.godebug = none := by kernel_rfl
theorem laidOut : laidOutB Try.prog = true := by kernel_rfl
theorem opensOp : Opens Try.prog 22 (Kd.slice 30 Nt.kOp) (fun xs => xs.length * 48 ≤ 140737488351232 ∧ ∀ y ∈ xs, (Lit.int .i64 y.d).wf = true ∧ (Lit.int .i64 y.i).wf = true ∧ ((Lit.int .i64 y.l.f0).wf = true ∧ (Lit.int .i64 y.l.f1).wf = true ∧ y.l.f2.size ≤ 140737488351232)) :=
  opens_slice 30 48 Try.underlying22 (by kernel_rfl) (by kernel_rfl) (by decide) (opens_struct3 (fun a b c => (⟨a, b, c⟩ : Nt.SOp)) (fun x : Nt.SOp => (x.d, x.i, x.l)) (fun _ _ _ => rfl) Try.underlying30 (by kernel_rfl) rfl rfl rfl (by kernel_rfl) (by kernel_rfl) (by kernel_rfl) (opens_int Try.underlying3) (opens_int Try.underlying3) (opens_struct3 (fun a b c => (⟨a, b, c⟩ : PNetGoes.S28)) (fun x : PNetGoes.S28 => (x.f0, x.f1, x.f2)) (fun _ _ _ => rfl) Try.underlying28 (by kernel_rfl) rfl rfl rfl (by kernel_rfl) (by kernel_rfl) (by kernel_rfl) (opens_int Try.underlying3) (opens_int Try.underlying3) (opens_string Try.underlying9)))
set_option maxRecDepth 100000 in
theorem lifted (os : Os) (started : os.Started) (H : Type) (enc : TypeId × Value → H) :
    ReturnsInHanded {} Try.checked os 3 .any (Rows.netKeepsSpec.pre6 enc Try.prog Try.f3 Rows.netKeepsRow.domain false) (Rows.netKeepsSpec.post enc Try.prog Try.f3 false true false false) := by
  refine returnsInHanded_of_change_sized (C := Try.checked) own started (by kernel_rfl) Try.func3
    (ChangeSpec.witness6 (enc := enc) (C := Try.checked) false ⟨#[], #[.slice none 0 0], []⟩ 8 (by kernel_rfl) (by kernel_rfl) (by kernel_rfl) (by kernel_rfl)) ?_
  intro W base args ds gs before hval0 hW hcnd hsz0 _
  have hsz : (DataW.weightsEach Try.prog (Try.f3.params.toList ++ Rows.netKeepsSpec.plain.varTypes Try.prog) (ds ++ gs)).all (· ≤ reachBytes) = true := hsz0
  have hval : ∀ (j : Nat) t v, Try.f3.params[j]? = some t → args[j]? = some v → Value.okWide Try.prog W .any base t v := hval0
  have hW' := hW
  obtain ⟨p, q, hA0, hV, rfl, hfz, hnd⟩ := hW
  have hA : DataW.TrodAll enc Try.prog W 0 (fun _ => true) true Try.f3.params.toList args.toList ds p := hA0
  rw [Try.params3] at hA hval hsz
  obtain ⟨v0, vs0, d0, ds0, p0, q0, hargs, rfl, rfl, h0, r0⟩ := trodAll_cons hA
  obtain ⟨rfl, rfl, rfl⟩ := trodAll_nil r0
  obtain rfl : args = #[v0] := by cases args; simp_all
  obtain ⟨rfl, rfl⟩ := trodVars_none hV
  have lt0 : ∀ x ∈ p0, x.block < W.heap.size := by obtain ⟨m, hm⟩ := h0; exact DataW.trod_lt m _ _ _ hm
  obtain ⟨A0, c0, l0, rfl, hc0, hr0, ok0⟩ := open_arg opensOp (okWide_slice Try.underlying22 (hval 0 22 v0 rfl rfl)) h0 (sized_arg hsz (j := 0) rfl rfl)
  clear hA0 hval0 hsz0 hsz
  refine (Nk.keeps_calls A0 c0 l0 W hr0 hc0).mono fun e W' ⟨he, bel⟩ => ?_
  subst he
  exact ⟨_, rfl, _, _, _, [], _, [], hW', trodAll_mk1 (shut_bool Try.underlying4 _), (trodAll_cons_mk (Below.trod laidOut (by kernel_rfl) (of_decide_eq_true (by kernel_rfl)) h0 bel lt0) trodAll_mk0), rfl, bel.frame _, fun h => by cases h⟩
theorem over : Rows.netKeepsRow.holds Try.pinned (OpenSpec.ofChange Rows.netKeepsSpec) :=
  OpenClaim.holds_of_wide 3 Try.f3 rfl rfl rfl rfl rfl rfl rfl ⟨rfl, rfl, rfl, rfl, rfl⟩ rfl rfl rfl rfl rfl (by kernel_rfl) Try.func3 (by kernel_rfl)
    (of_decide_eq_true (by kernel_rfl)) (by unfold Func.isWrapper; first | (rw [if_pos (by decide +kernel)]; kernel_rfl) | (rw [if_neg (by decide +kernel)]; exact ⟨rfl, rfl⟩))
    (fun os started H enc _ => lifted os started H enc)
theorem proved : Rows.NetKeepsSaid := over
#print axioms proved
end Go.Proofs.Ytpnbeifbapcmdaa.netKeeps
namespace Go.Proofs.Ytpnbeifbapcmdaa
/-- The row, under a short name, for the claim. -/
theorem netKeeps_holds : Rows.NetKeepsSaid := netKeeps.proved
end Go.Proofs.Ytpnbeifbapcmdaa
