/- The law MuxOnce of the given program, for every input: each frame is answered by one reply, in order, of a kind that fits it; a broken stream's last reply says so. -/
import Derived.Test.YthjjblnkaikmlaaRows
import Derived.Test.YthjjblnkaikmlaaMxH
import Derived.Test.YthjjblnkaikmlaaOpen
import Derived.WalkKit
import Derived.ProofKit
import Derived.OpenShut
import Derived.ShutString
import Derived.ChangeOld
import Derived.Below
import Derived.SizedLaws
namespace Go.Proofs.Ythjjblnkaikmlaa.muxOnce
open Go.ChangeShapes Go.WideShapes Go.ChangeAt Go.RowKit
open Go.ChangeMaps (open_string shut_string)
open Go.Proofs.YthjjblnkaikmlaaW.PrintWords Go.Proofs.Ythjjblnkaikmlaa.Open
set_option linter.unusedVariables false
theorem own : ownKnob Try.prog.godebug = none := by kernel_rfl
theorem laidOut : laidOutB Try.prog = true := by kernel_rfl
theorem opensF : Opens Try.prog 22 (Kd.slice 44 PMuxOnce.k44) (fun xs => xs.length * 24 ≤ 140737488351232 ∧ ∀ y ∈ xs, (Lit.int .u8 y.f0).wf = true ∧ y.f1.size ≤ 140737488351232) :=
  opens_slice 44 24 Try.underlying22 (by kernel_rfl) (by kernel_rfl) (by decide) (opens_struct2 (fun a b => (⟨a, b⟩ : PMuxOnce.S44)) (fun x : PMuxOnce.S44 => (x.f0, x.f1)) (fun _ _ => rfl) Try.underlying44 (by kernel_rfl) rfl rfl (by kernel_rfl) (by kernel_rfl) (opens_int Try.underlying5) (opens_string Try.underlying9))
theorem opensW : Opens Try.prog 23 (Kd.slice 37 Mx.k37) (fun xs => xs.length * 24 ≤ 140737488351232 ∧ ∀ y ∈ xs, True ∧ True ∧ y.f2.size ≤ 140737488351232) :=
  opens_slice 37 24 Try.underlying23 (by kernel_rfl) (by kernel_rfl) (by decide) (opens_struct3 (fun a b c => (⟨a, b, c⟩ : Mx.S37)) (fun x : Mx.S37 => (x.f0, x.f1, x.f2)) (fun _ _ _ => rfl) Try.underlying37 (by kernel_rfl) rfl rfl rfl (by kernel_rfl) (by kernel_rfl) (by kernel_rfl) (opens_bool Try.underlying4) (opens_bool Try.underlying4) (opens_string Try.underlying9))
set_option maxRecDepth 100000 in
theorem lifted (os : Os) (started : os.Started) (H : Type) (enc : TypeId × Value → H) :
    ReturnsInHanded {} Try.checked os 4 .any (Rows.muxOnceSpec.pre6 enc Try.prog Try.f4 Rows.muxOnceRow.domain false) (Rows.muxOnceSpec.post enc Try.prog Try.f4 false true false false) := by
  refine returnsInHanded_of_change_sized (C := Try.checked) own started (by kernel_rfl) Try.func4
    (ChangeSpec.witness6 (enc := enc) (C := Try.checked) false ⟨#[], #[.slice none 0 0, .string .empty, .slice none 0 0], []⟩ 8 (by kernel_rfl) (by kernel_rfl) (by kernel_rfl) (by kernel_rfl)) ?_
  intro W base args ds gs before hval0 hW hcnd hsz0 _
  have hsz : (DataW.weightsEach Try.prog (Try.f4.params.toList ++ Rows.muxOnceSpec.plain.varTypes Try.prog) (ds ++ gs)).all (· ≤ reachBytes) = true := hsz0
  have hval : ∀ (j : Nat) t v, Try.f4.params[j]? = some t → args[j]? = some v → Value.okWide Try.prog W .any base t v := hval0
  have hW' := hW
  obtain ⟨p, q, hA0, hV, rfl, hfz, hnd⟩ := hW
  have hA : DataW.TrodAll enc Try.prog W 0 (fun _ => true) true Try.f4.params.toList args.toList ds p := hA0
  rw [Try.params4] at hA hval hsz
  obtain ⟨v0, vs0, d0, ds0, p0, q0, hargs, rfl, rfl, h0, r0⟩ := trodAll_cons hA
  obtain ⟨v1, vs1, d1, ds1, p1, q1, rfl, rfl, rfl, h1, r1⟩ := trodAll_cons r0
  obtain ⟨v2, vs2, d2, ds2, p2, q2, rfl, rfl, rfl, h2, r2⟩ := trodAll_cons r1
  obtain ⟨rfl, rfl, rfl⟩ := trodAll_nil r2
  obtain rfl : args = #[v0, v1, v2] := by cases args; simp_all
  obtain ⟨rfl, rfl⟩ := trodVars_none hV
  have lt0 : ∀ x ∈ p0, x.block < W.heap.size := by obtain ⟨m, hm⟩ := h0; exact DataW.trod_lt m _ _ _ hm
  obtain ⟨A0, c0, l0, rfl, hc0, hr0, ok0⟩ := open_arg opensF (okWide_slice Try.underlying22 (hval 0 22 v0 rfl rfl)) h0 (sized_arg hsz (j := 0) rfl rfl)
  obtain ⟨a1, rfl, rfl, rfl, y1⟩ := open_string Try.underlying9 (hval 1 9 v1 rfl rfl) h1
  have w1 : a1.size ≤ 140737488351232 := by
    have z := sized_string hsz (j := 1) (t := 9) rfl rfl
    rw [Array.length_toList] at z
    exact z
  have lt2 : ∀ x ∈ p2, x.block < W.heap.size := by obtain ⟨m, hm⟩ := h2; exact DataW.trod_lt m _ _ _ hm
  obtain ⟨A2, c2, l2, rfl, hc2, hr2, ok2⟩ := open_arg opensW (okWide_slice Try.underlying23 (hval 2 23 v2 rfl rfl)) h2 (sized_arg hsz (j := 2) rfl rfl)
  clear hA0 hval0 hsz0 hsz
  refine (Mx.once_calls A0 c0 l0 a1 A2 c2 l2 W hr0 hc0 hr2 hc2 (by have := ok0.1; omega) (by have := ok2.1; omega) w1).mono fun e W' ⟨he, bel⟩ => ?_
  subst he
  exact ⟨_, rfl, _, _, _, [], _, [], hW', trodAll_mk1 (shut_bool Try.underlying4 _), (trodAll_cons_mk (Below.trod laidOut (by kernel_rfl) (of_decide_eq_true (by kernel_rfl)) h0 bel lt0) (trodAll_cons_mk (shut_string Try.underlying9 y1) (trodAll_cons_mk (Below.trod laidOut (by kernel_rfl) (of_decide_eq_true (by kernel_rfl)) h2 bel lt2) trodAll_mk0))), rfl, bel.frame _, fun h => by cases h⟩
theorem over : Rows.muxOnceRow.holds Try.pinned (OpenSpec.ofChange Rows.muxOnceSpec) :=
  OpenClaim.holds_of_wide 4 Try.f4 rfl rfl rfl rfl rfl rfl rfl ⟨rfl, rfl, rfl, rfl, rfl⟩ rfl rfl rfl rfl rfl (by kernel_rfl) Try.func4 (by kernel_rfl)
    (of_decide_eq_true (by kernel_rfl)) (by unfold Func.isWrapper; first | (rw [if_pos (by decide +kernel)]; kernel_rfl) | (rw [if_neg (by decide +kernel)]; exact ⟨rfl, rfl⟩))
    (fun os started H enc _ => lifted os started H enc)
theorem proved : Rows.MuxOnceSaid := over
#print axioms proved
end Go.Proofs.Ythjjblnkaikmlaa.muxOnce
namespace Go.Proofs.Ythjjblnkaikmlaa
/-- The row, under a short name, for the claim. -/
theorem muxOnce_holds : Rows.MuxOnceSaid := muxOnce.proved
end Go.Proofs.Ythjjblnkaikmlaa
