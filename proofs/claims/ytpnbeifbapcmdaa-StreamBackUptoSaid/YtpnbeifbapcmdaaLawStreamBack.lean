/- The law StreamBack of the given program, in the second form: what is read holds at most 1048576 values and letters: Feed of Bytes tells the frames. -/
import Derived.Test.YtpnbeifbapcmdaaRows
import Derived.Test.YtpnbeifbapcmdaaStF
import Derived.Test.YtpnbeifbapcmdaaOpen
import Derived.Test.YtpnbeifbapcmdaaBulk
import Derived.Test.YtpnbeifbapcmdaaRows
import Derived.WalkKit
import Derived.ProofKit
import Derived.OpenShut
import Derived.ShutString
import Derived.ChangeOld
import Derived.Below
import Derived.SizedLaws
import Derived.Deep.CondSized
import Derived.JoinedCond
namespace Go.Proofs.Ytpnbeifbapcmdaa.streamBack
open Go.ChangeShapes Go.WideShapes Go.ChangeAt Go.RowKit
open Go.ChangeMaps (open_string shut_string)
open Go.Proofs.YtpnbeifbapcmdaaW.PrintWords Go.Proofs.Ytpnbeifbapcmdaa.Open
set_option linter.unusedVariables false
theorem own : ownKnob Try.prog.godebug = none := by kernel_rfl
theorem laidOut : laidOutB Try.prog = true := by kernel_rfl
theorem opensF : Opens Try.prog 52 (Kd.slice 64 PStreamFeeds.k64) (fun xs => xs.length * 24 ≤ 140737488351232 ∧ ∀ y ∈ xs, (Lit.int .u8 y.f0).wf = true ∧ y.f1.size ≤ 140737488351232) :=
  opens_slice 64 24 Try.underlying52 (by kernel_rfl) (by kernel_rfl) (by decide) (opens_struct2 (fun a b => (⟨a, b⟩ : PStreamFeeds.S64)) (fun x : PStreamFeeds.S64 => (x.f0, x.f1)) (fun _ _ => rfl) Try.underlying64 (by kernel_rfl) rfl rfl (by kernel_rfl) (by kernel_rfl) (opens_int Try.underlying5) (opens_string Try.underlying9))
set_option maxRecDepth 100000 in
theorem lifted (os : Os) (started : os.Started) (H : Type) (enc : TypeId × Value → H) (F : Stop.Interp) :
    ReturnsInHanded {} Try.checked os 8 .any ((Rows.OpenSpec.upto Rows.streamBackSpec).pre6 enc Try.prog Try.f8 Rows.streamBackUptoRow.domain false) (((Rows.OpenSpec.upto Rows.streamBackSpec).at F).post enc Try.prog Try.f8 false true false false) := by
  refine returnsInHanded_of_cond_sized (C := Try.checked) (s := (Rows.OpenSpec.upto Rows.streamBackSpec)) (k := Rows.uptoSmall) rfl own started (by kernel_rfl) Try.func8
    (OpenSpec.witness (enc := enc) (C := Try.checked) (s := (Rows.OpenSpec.upto Rows.streamBackSpec)) (k := Rows.uptoSmall) rfl false ⟨#[], #[.slice none 0 0], []⟩ 8 (by kernel_rfl) (by kernel_rfl) (by kernel_rfl) (x := ([.nil], [], [])) (by kernel_rfl) rfl (by kernel_rfl)) ?_
  intro W base args ds gs before hval0 hW hcnd hk hsz0 _
  have hsz : (DataW.weightsEach Try.prog (Try.f8.params.toList ++ Rows.streamBackSpec.plain.varTypes Try.prog) (ds ++ gs)).all (· ≤ reachBytes) = true := hsz0
  have hval : ∀ (j : Nat) t v, Try.f8.params[j]? = some t → args[j]? = some v → Value.okWide Try.prog W .any base t v := hval0
  have hW' := hW
  obtain ⟨p, q, hA0, hV, rfl, hfz, hnd⟩ := hW
  have hA : DataW.TrodAll enc Try.prog W 0 (fun _ => true) true Try.f8.params.toList args.toList ds p := hA0
  rw [Try.params8] at hA hval hsz
  obtain ⟨v0, vs0, d0, ds0, p0, q0, hargs, rfl, rfl, h0, r0⟩ := trodAll_cons hA
  obtain ⟨rfl, rfl, rfl⟩ := trodAll_nil r0
  obtain rfl : args = #[v0] := by cases args; simp_all
  obtain ⟨rfl, rfl⟩ := trodVars_none hV
  have lt0 : ∀ x ∈ p0, x.block < W.heap.size := by obtain ⟨m, hm⟩ := h0; exact DataW.trod_lt m _ _ _ hm
  obtain ⟨A0, c0, l0, rfl, hc0, hr0, ok0⟩ := open_arg opensF (okWide_slice Try.underlying52 (hval 0 52 v0 rfl rfl)) h0 (sized_arg hsz (j := 0) rfl rfl)
  have hbk := bulks.bound hk
  simp only [Rows.uptoBulkAll, List.append_nil] at hbk
  have bk0 := bulks.of_slice Try.underlying52 h0
  clear hA0 hval0 hsz0 hsz
  refine (St.back_calls A0 c0 l0 W hr0 hc0 (by omega)).mono fun e W' ⟨he, bel⟩ => ?_
  subst he
  exact ⟨_, rfl, _, _, _, [], _, [], hW', trodAll_mk1 (shut_bool Try.underlying4 _), (trodAll_cons_mk (Below.trod laidOut (by kernel_rfl) (of_decide_eq_true (by kernel_rfl)) h0 bel lt0) trodAll_mk0), rfl, bel.frame _, fun h => by cases h⟩
theorem over : Rows.streamBackUptoRow.holds Try.pinned (Rows.OpenSpec.upto Rows.streamBackSpec) :=
  OpenClaim.holds_of_cond 8 Try.f8 rfl rfl rfl rfl rfl rfl rfl ⟨rfl, rfl, rfl, rfl, rfl⟩ rfl rfl rfl rfl rfl (by kernel_rfl) Try.func8 (by kernel_rfl)
    (of_decide_eq_true (by kernel_rfl)) (by unfold Func.isWrapper; first | (rw [if_pos (by decide +kernel)]; kernel_rfl) | (rw [if_neg (by decide +kernel)]; exact ⟨rfl, rfl⟩))
    (fun os started H enc _ F => lifted os started H enc F)
theorem proved : Rows.StreamBackUptoSaid := over
#print axioms proved
end Go.Proofs.Ytpnbeifbapcmdaa.streamBack
namespace Go.Proofs.Ytpnbeifbapcmdaa
/-- The row, under a short name, for the claim. -/
theorem streamBack_holds : Rows.StreamBackUptoSaid := streamBack.proved
end Go.Proofs.Ytpnbeifbapcmdaa
