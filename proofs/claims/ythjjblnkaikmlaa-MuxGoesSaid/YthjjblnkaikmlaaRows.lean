/-
  No cell of these rows narrows 'for every input' (looked for: loops, veiled, ifaces, maps, wideKeys, modest, calm, conditions, laid).
  DERIVED. THE GIVEN ROWS OF THIS SEAT. 3 by the template 'for every input the law returns true; each argument reads behind the call as it read before'; 0 by the template 'total and deterministic' (their statements: YthjjblnkaikmlaaTotals.lean).
  GIVEN WITH THE SEED: the statements are not yours to turn. If you find one false, say at which input.
  Laid BY PROGRAM, IN A SANDBOX (cutbox-rows.mjs): the forced cells as the released guide's own fill.sh prints them over the translation 6a5983782ad6fbd4… (all of the seat's roots in one cut). By AI agents, Wed Nov 11 2026. No macro, syntax, notation, axiom, sorry.
-/
import Derived.Test.YthjjblnkaikmlaaChecked
import GoSem.Claim
import GoSem.ClaimJoined
import GoSem.ClaimMapViews
import Derived.JoinedTies
import Derived.KernelRfl
namespace Go.Proofs.Ythjjblnkaikmlaa
/- THE CELL 'sum', in the pinned program and in every row, IS THE sha256 OF THE DUMP (.gsa) THAT YthjjblnkaikmlaaProg.lean LOADS. Nothing in Lean hashes anything: it is a label: what it is worth is what the hold of that sum in a sandbox is worth. -/
noncomputable def Try.pinned : Pinned := { name := "ythjjblnkaikmlaa", sum := "6a5983782ad6fbd493cb74d28f8b5d92d385aee74c9b4f60b97c51b8df1dbfaa", checked := Try.checked }
namespace Rows
def none {H : Type} : Left H := { results := [], args := [] }

/-- 'stopcocklaw19.MuxAnswers': WHATEVER THE INPUT: true; the input reads as it did. -/
def muxAnswersSpec : ChangeSpec := { name := "muxAnswers", fn := fun _ => fun
  | [d1, d2] => { results := [.lit (.bool true)], args := [d1, d2] }
  | _ => none }
def muxAnswersRow : OpenClaim := { program := "ythjjblnkaikmlaa", sum := "6a5983782ad6fbd493cb74d28f8b5d92d385aee74c9b4f60b97c51b8df1dbfaa", func := "stopcock/stopcocklaw19.MuxAnswers", spec := "muxAnswers", unfollowed := true, recurses := true, apart := false }
def MuxAnswersSaid : Prop := muxAnswersRow.holds Try.pinned (OpenSpec.ofChange muxAnswersSpec)

/-- ITS FALSE NEIGHBOUR: 'it returns false'. Refute it at one input. -/
def muxAnswersWrong : ChangeSpec := { name := "muxAnswers", fn := fun _ => fun
  | [d1, d2] => { results := [.lit (.bool false)], args := [d1, d2] }
  | _ => none }
def MuxAnswersWrongFalsely : Prop := muxAnswersRow.holds Try.pinned (OpenSpec.ofChange muxAnswersWrong)

/-- 'stopcocklaw19.MuxOnce': WHATEVER THE INPUT: true; the input reads as it did. -/
def muxOnceSpec : ChangeSpec := { name := "muxOnce", fn := fun _ => fun
  | [d1, d2, d3] => { results := [.lit (.bool true)], args := [d1, d2, d3] }
  | _ => none }
def muxOnceRow : OpenClaim := { program := "ythjjblnkaikmlaa", sum := "6a5983782ad6fbd493cb74d28f8b5d92d385aee74c9b4f60b97c51b8df1dbfaa", func := "stopcock/stopcocklaw19.MuxOnce", spec := "muxOnce", unfollowed := true, recurses := true, apart := false }
def MuxOnceSaid : Prop := muxOnceRow.holds Try.pinned (OpenSpec.ofChange muxOnceSpec)

/-- ITS FALSE NEIGHBOUR: 'it returns false'. Refute it at one input. -/
def muxOnceWrong : ChangeSpec := { name := "muxOnce", fn := fun _ => fun
  | [d1, d2, d3] => { results := [.lit (.bool false)], args := [d1, d2, d3] }
  | _ => none }
def MuxOnceWrongFalsely : Prop := muxOnceRow.holds Try.pinned (OpenSpec.ofChange muxOnceWrong)

/-- 'stopcocklaw19.MuxGoes': WHATEVER THE INPUT: true; the input reads as it did. -/
def muxGoesSpec : ChangeSpec := { name := "muxGoes", fn := fun _ => fun
  | [d] => { results := [.lit (.bool true)], args := [d] }
  | _ => none }
def muxGoesRow : OpenClaim := { program := "ythjjblnkaikmlaa", sum := "6a5983782ad6fbd493cb74d28f8b5d92d385aee74c9b4f60b97c51b8df1dbfaa", func := "stopcock/stopcocklaw19.MuxGoes", spec := "muxGoes", unfollowed := true, recurses := true, apart := false }
def MuxGoesSaid : Prop := muxGoesRow.holds Try.pinned (OpenSpec.ofChange muxGoesSpec)

/-- ITS FALSE NEIGHBOUR: 'it returns false'. Refute it at one input. -/
def muxGoesWrong : ChangeSpec := { name := "muxGoes", fn := fun _ => fun
  | [d] => { results := [.lit (.bool false)], args := [d] }
  | _ => none }
def MuxGoesWrongFalsely : Prop := muxGoesRow.holds Try.pinned (OpenSpec.ofChange muxGoesWrong)

/- THE SECOND FORM. 'bulk': how many values and letters a reading holds, each counted each time it is reached (what is shared counts as often as it is met; a slice's spare places count too). A statement '..UptoSaid' is the law's where the arguments, and the package variables that the reading takes, are together of bulk at most 1048576: NARROWER than '..Said'. Prove '..Said' where nothing that the law and all that it calls make is longer than what came in: it says more and counts as full. Else prove '..UptoSaid'. A law counts once. -/
mutual
def uptoBulk {H : Type} : DataW H → Nat
  | .lit (.string bytes) => bytes.length + 1
  | .lit _ => 1
  | .nil => 1
  | .ptr d => uptoBulk d + 1
  | .slice elems spare => uptoBulkAll elems + uptoBulkAll spare + 1
  | .agg parts => uptoBulkAll parts + 1
  | .iface _ d => uptoBulk d + 1
  | .map entries => uptoBulkEntries entries + 1
  | .held _ => 1
def uptoBulkAll {H : Type} : List (DataW H) → Nat
  | [] => 0
  | d :: r => uptoBulk d + uptoBulkAll r
def uptoBulkEntries {H : Type} : List (Lit × DataW H) → Nat
  | [] => 0
  | x :: r => uptoBulkEntry x + uptoBulkEntries r
def uptoBulkEntry {H : Type} : Lit × DataW H → Nat
  | (.string bytes, d) => bytes.length + uptoBulk d + 1
  | (_, d) => uptoBulk d + 1
 end
def uptoSmall : (H : Type) → List (DataW H) → Bool := fun _ ds => decide (uptoBulkAll ds ≤ 1048576)
def OpenSpec.upto (s : _root_.Go.ChangeSpec) : _root_.Go.OpenSpec := { _root_.Go.OpenSpec.ofChange s with cond := some uptoSmall }

/-- 'stopcocklaw19.MuxAnswers', WHERE WHAT IT READS IS OF BULK AT MOST 1048576: true; the input reads as it did. -/
def muxAnswersUptoRow : OpenClaim := { program := "ythjjblnkaikmlaa", sum := "6a5983782ad6fbd493cb74d28f8b5d92d385aee74c9b4f60b97c51b8df1dbfaa", func := "stopcock/stopcocklaw19.MuxAnswers", spec := "muxAnswers", unfollowed := true, recurses := true, apart := false, narrowed := true }
def MuxAnswersUptoSaid : Prop := muxAnswersUptoRow.holds Try.pinned (OpenSpec.upto muxAnswersSpec)

/-- 'stopcocklaw19.MuxOnce', WHERE WHAT IT READS IS OF BULK AT MOST 1048576: true; the input reads as it did. -/
def muxOnceUptoRow : OpenClaim := { program := "ythjjblnkaikmlaa", sum := "6a5983782ad6fbd493cb74d28f8b5d92d385aee74c9b4f60b97c51b8df1dbfaa", func := "stopcock/stopcocklaw19.MuxOnce", spec := "muxOnce", unfollowed := true, recurses := true, apart := false, narrowed := true }
def MuxOnceUptoSaid : Prop := muxOnceUptoRow.holds Try.pinned (OpenSpec.upto muxOnceSpec)

/-- 'stopcocklaw19.MuxGoes', WHERE WHAT IT READS IS OF BULK AT MOST 1048576: true; the input reads as it did. -/
def muxGoesUptoRow : OpenClaim := { program := "ythjjblnkaikmlaa", sum := "6a5983782ad6fbd493cb74d28f8b5d92d385aee74c9b4f60b97c51b8df1dbfaa", func := "stopcock/stopcocklaw19.MuxGoes", spec := "muxGoes", unfollowed := true, recurses := true, apart := false, narrowed := true }
def MuxGoesUptoSaid : Prop := muxGoesUptoRow.holds Try.pinned (OpenSpec.upto muxGoesSpec)

end Rows
end Go.Proofs.Ythjjblnkaikmlaa
