/-
  No cell of these rows narrows 'for every input' (looked for: loops, veiled, ifaces, maps, wideKeys, modest, calm, conditions, laid).
  DERIVED. THE GIVEN ROWS OF THIS SEAT. 10 by the template 'for every input the law returns true; each argument reads behind the call as it read before'; 0 by the template 'total and deterministic' (their statements: YtnnpaeplbjfldaaTotals.lean).
  GIVEN WITH THE SEED: the statements are not yours to turn. If you find one false, say at which input.
  Laid BY PROGRAM, IN A SANDBOX (cutbox-rows.mjs): the forced cells as the released guide's own fill.sh prints them over the translation c37b09e8023b9cbc… (all of the seat's roots in one cut). By AI agents, Wed Nov 11 2026. No macro, syntax, notation, axiom, sorry.
-/
import Derived.Test.YtnnpaeplbjfldaaChecked
import GoSem.Claim
import GoSem.ClaimJoined
import GoSem.ClaimMapViews
import Derived.JoinedTies
import Derived.KernelRfl
namespace Go.Proofs.Ytnnpaeplbjfldaa
/- THE CELL 'sum', in the pinned program and in every row, IS THE sha256 OF THE DUMP (.gsa) THAT YtnnpaeplbjfldaaProg.lean LOADS. Nothing in Lean hashes anything: it is a label: what it is worth is what the hold of that sum in a sandbox is worth. -/
noncomputable def Try.pinned : Pinned := { name := "ytnnpaeplbjfldaa", sum := "c37b09e8023b9cbc7f20f6ee4195c02e800b371a03d17d62419edf9b7e551677", checked := Try.checked }
namespace Rows
def none {H : Type} : Left H := { results := [], args := [] }

/-- 'stopcocklaw02.DriftMay': WHATEVER THE INPUT: true; the input reads as it did. -/
def driftMaySpec : ChangeSpec := { name := "driftMay", fn := fun _ => fun
  | [d1, d2, d3] => { results := [.lit (.bool true)], args := [d1, d2, d3] }
  | _ => none }
def driftMayRow : OpenClaim := { program := "ytnnpaeplbjfldaa", sum := "c37b09e8023b9cbc7f20f6ee4195c02e800b371a03d17d62419edf9b7e551677", func := "stopcock/stopcocklaw02.DriftMay", spec := "driftMay", apart := false }
def DriftMaySaid : Prop := driftMayRow.holds Try.pinned (OpenSpec.ofChange driftMaySpec)

/-- ITS FALSE NEIGHBOUR: 'it returns false'. Refute it at one input. -/
def driftMayWrong : ChangeSpec := { name := "driftMay", fn := fun _ => fun
  | [d1, d2, d3] => { results := [.lit (.bool false)], args := [d1, d2, d3] }
  | _ => none }
def DriftMayWrongFalsely : Prop := driftMayRow.holds Try.pinned (OpenSpec.ofChange driftMayWrong)

/-- 'stopcocklaw02.DriftAdds': WHATEVER THE INPUT: true; the input reads as it did. -/
def driftAddsSpec : ChangeSpec := { name := "driftAdds", fn := fun _ => fun
  | [d1, d2, d3, d4, d5] => { results := [.lit (.bool true)], args := [d1, d2, d3, d4, d5] }
  | _ => none }
def driftAddsRow : OpenClaim := { program := "ytnnpaeplbjfldaa", sum := "c37b09e8023b9cbc7f20f6ee4195c02e800b371a03d17d62419edf9b7e551677", func := "stopcock/stopcocklaw02.DriftAdds", spec := "driftAdds", apart := false }
def DriftAddsSaid : Prop := driftAddsRow.holds Try.pinned (OpenSpec.ofChange driftAddsSpec)

/-- ITS FALSE NEIGHBOUR: 'it returns false'. Refute it at one input. -/
def driftAddsWrong : ChangeSpec := { name := "driftAdds", fn := fun _ => fun
  | [d1, d2, d3, d4, d5] => { results := [.lit (.bool false)], args := [d1, d2, d3, d4, d5] }
  | _ => none }
def DriftAddsWrongFalsely : Prop := driftAddsRow.holds Try.pinned (OpenSpec.ofChange driftAddsWrong)

/-- 'stopcocklaw02.DriftShort': WHATEVER THE INPUT: true; the input reads as it did. -/
def driftShortSpec : ChangeSpec := { name := "driftShort", fn := fun _ => fun
  | [d1, d2] => { results := [.lit (.bool true)], args := [d1, d2] }
  | _ => none }
def driftShortRow : OpenClaim := { program := "ytnnpaeplbjfldaa", sum := "c37b09e8023b9cbc7f20f6ee4195c02e800b371a03d17d62419edf9b7e551677", func := "stopcock/stopcocklaw02.DriftShort", spec := "driftShort", apart := false }
def DriftShortSaid : Prop := driftShortRow.holds Try.pinned (OpenSpec.ofChange driftShortSpec)

/-- ITS FALSE NEIGHBOUR: 'it returns false'. Refute it at one input. -/
def driftShortWrong : ChangeSpec := { name := "driftShort", fn := fun _ => fun
  | [d1, d2] => { results := [.lit (.bool false)], args := [d1, d2] }
  | _ => none }
def DriftShortWrongFalsely : Prop := driftShortRow.holds Try.pinned (OpenSpec.ofChange driftShortWrong)

/-- 'stopcocklaw02.DriftShorter': WHATEVER THE INPUT: true; the input reads as it did. -/
def driftShorterSpec : ChangeSpec := { name := "driftShorter", fn := fun _ => fun
  | [d1, d2] => { results := [.lit (.bool true)], args := [d1, d2] }
  | _ => none }
def driftShorterRow : OpenClaim := { program := "ytnnpaeplbjfldaa", sum := "c37b09e8023b9cbc7f20f6ee4195c02e800b371a03d17d62419edf9b7e551677", func := "stopcock/stopcocklaw02.DriftShorter", spec := "driftShorter", apart := false }
def DriftShorterSaid : Prop := driftShorterRow.holds Try.pinned (OpenSpec.ofChange driftShorterSpec)

/-- ITS FALSE NEIGHBOUR: 'it returns false'. Refute it at one input. -/
def driftShorterWrong : ChangeSpec := { name := "driftShorter", fn := fun _ => fun
  | [d1, d2] => { results := [.lit (.bool false)], args := [d1, d2] }
  | _ => none }
def DriftShorterWrongFalsely : Prop := driftShorterRow.holds Try.pinned (OpenSpec.ofChange driftShorterWrong)

/-- 'stopcocklaw02.DriftLeast': WHATEVER THE INPUT: true; the input reads as it did. -/
def driftLeastSpec : ChangeSpec := { name := "driftLeast", fn := fun _ => fun
  | [d1, d2] => { results := [.lit (.bool true)], args := [d1, d2] }
  | _ => none }
def driftLeastRow : OpenClaim := { program := "ytnnpaeplbjfldaa", sum := "c37b09e8023b9cbc7f20f6ee4195c02e800b371a03d17d62419edf9b7e551677", func := "stopcock/stopcocklaw02.DriftLeast", spec := "driftLeast", apart := false }
def DriftLeastSaid : Prop := driftLeastRow.holds Try.pinned (OpenSpec.ofChange driftLeastSpec)

/-- ITS FALSE NEIGHBOUR: 'it returns false'. Refute it at one input. -/
def driftLeastWrong : ChangeSpec := { name := "driftLeast", fn := fun _ => fun
  | [d1, d2] => { results := [.lit (.bool false)], args := [d1, d2] }
  | _ => none }
def DriftLeastWrongFalsely : Prop := driftLeastRow.holds Try.pinned (OpenSpec.ofChange driftLeastWrong)

/-- 'stopcocklaw02.DriftMost': WHATEVER THE INPUT: true; the input reads as it did. -/
def driftMostSpec : ChangeSpec := { name := "driftMost", fn := fun _ => fun
  | [d1, d2] => { results := [.lit (.bool true)], args := [d1, d2] }
  | _ => none }
def driftMostRow : OpenClaim := { program := "ytnnpaeplbjfldaa", sum := "c37b09e8023b9cbc7f20f6ee4195c02e800b371a03d17d62419edf9b7e551677", func := "stopcock/stopcocklaw02.DriftMost", spec := "driftMost", apart := false }
def DriftMostSaid : Prop := driftMostRow.holds Try.pinned (OpenSpec.ofChange driftMostSpec)

/-- ITS FALSE NEIGHBOUR: 'it returns false'. Refute it at one input. -/
def driftMostWrong : ChangeSpec := { name := "driftMost", fn := fun _ => fun
  | [d1, d2] => { results := [.lit (.bool false)], args := [d1, d2] }
  | _ => none }
def DriftMostWrongFalsely : Prop := driftMostRow.holds Try.pinned (OpenSpec.ofChange driftMostWrong)

/-- 'stopcocklaw02.DriftSoonest': WHATEVER THE INPUT: true; the input reads as it did. -/
def driftSoonestSpec : ChangeSpec := { name := "driftSoonest", fn := fun _ => fun
  | [d1, d2] => { results := [.lit (.bool true)], args := [d1, d2] }
  | _ => none }
def driftSoonestRow : OpenClaim := { program := "ytnnpaeplbjfldaa", sum := "c37b09e8023b9cbc7f20f6ee4195c02e800b371a03d17d62419edf9b7e551677", func := "stopcock/stopcocklaw02.DriftSoonest", spec := "driftSoonest", apart := false }
def DriftSoonestSaid : Prop := driftSoonestRow.holds Try.pinned (OpenSpec.ofChange driftSoonestSpec)

/-- ITS FALSE NEIGHBOUR: 'it returns false'. Refute it at one input. -/
def driftSoonestWrong : ChangeSpec := { name := "driftSoonest", fn := fun _ => fun
  | [d1, d2] => { results := [.lit (.bool false)], args := [d1, d2] }
  | _ => none }
def DriftSoonestWrongFalsely : Prop := driftSoonestRow.holds Try.pinned (OpenSpec.ofChange driftSoonestWrong)

/-- 'stopcocklaw02.DriftLatest': WHATEVER THE INPUT: true; the input reads as it did. -/
def driftLatestSpec : ChangeSpec := { name := "driftLatest", fn := fun _ => fun
  | [d1, d2] => { results := [.lit (.bool true)], args := [d1, d2] }
  | _ => none }
def driftLatestRow : OpenClaim := { program := "ytnnpaeplbjfldaa", sum := "c37b09e8023b9cbc7f20f6ee4195c02e800b371a03d17d62419edf9b7e551677", func := "stopcock/stopcocklaw02.DriftLatest", spec := "driftLatest", apart := false }
def DriftLatestSaid : Prop := driftLatestRow.holds Try.pinned (OpenSpec.ofChange driftLatestSpec)

/-- ITS FALSE NEIGHBOUR: 'it returns false'. Refute it at one input. -/
def driftLatestWrong : ChangeSpec := { name := "driftLatest", fn := fun _ => fun
  | [d1, d2] => { results := [.lit (.bool false)], args := [d1, d2] }
  | _ => none }
def DriftLatestWrongFalsely : Prop := driftLatestRow.holds Try.pinned (OpenSpec.ofChange driftLatestWrong)

/-- 'stopcocklaw02.DriftSafe': WHATEVER THE INPUT: true; the input reads as it did. -/
def driftSafeSpec : ChangeSpec := { name := "driftSafe", fn := fun _ => fun
  | [d1, d2, d3, d4] => { results := [.lit (.bool true)], args := [d1, d2, d3, d4] }
  | _ => none }
def driftSafeRow : OpenClaim := { program := "ytnnpaeplbjfldaa", sum := "c37b09e8023b9cbc7f20f6ee4195c02e800b371a03d17d62419edf9b7e551677", func := "stopcock/stopcocklaw02.DriftSafe", spec := "driftSafe", apart := false }
def DriftSafeSaid : Prop := driftSafeRow.holds Try.pinned (OpenSpec.ofChange driftSafeSpec)

/-- ITS FALSE NEIGHBOUR: 'it returns false'. Refute it at one input. -/
def driftSafeWrong : ChangeSpec := { name := "driftSafe", fn := fun _ => fun
  | [d1, d2, d3, d4] => { results := [.lit (.bool false)], args := [d1, d2, d3, d4] }
  | _ => none }
def DriftSafeWrongFalsely : Prop := driftSafeRow.holds Try.pinned (OpenSpec.ofChange driftSafeWrong)

/-- 'stopcocklaw02.DriftEnds': WHATEVER THE INPUT: true; the input reads as it did. -/
def driftEndsSpec : ChangeSpec := { name := "driftEnds", fn := fun _ => fun
  | [d1, d2] => { results := [.lit (.bool true)], args := [d1, d2] }
  | _ => none }
def driftEndsRow : OpenClaim := { program := "ytnnpaeplbjfldaa", sum := "c37b09e8023b9cbc7f20f6ee4195c02e800b371a03d17d62419edf9b7e551677", func := "stopcock/stopcocklaw02.DriftEnds", spec := "driftEnds", apart := false }
def DriftEndsSaid : Prop := driftEndsRow.holds Try.pinned (OpenSpec.ofChange driftEndsSpec)

/-- ITS FALSE NEIGHBOUR: 'it returns false'. Refute it at one input. -/
def driftEndsWrong : ChangeSpec := { name := "driftEnds", fn := fun _ => fun
  | [d1, d2] => { results := [.lit (.bool false)], args := [d1, d2] }
  | _ => none }
def DriftEndsWrongFalsely : Prop := driftEndsRow.holds Try.pinned (OpenSpec.ofChange driftEndsWrong)

/- THE SECOND FORM. 'bulk': how many values and letters a reading holds, each counted each time it is reached (what is shared counts as often as it is met; a slice's spare places count too). A statement '..UptoSaid' is the law's where the arguments, and the package variables that the reading takes, are together of bulk at most 1048576: NARROWER than '..Said'. Prove '..Said' where nothing that the law and all that it calls make is longer than what came in: it says more and counts as full. Else prove '..UptoSaid'. A law counts once. -/
mutual
def uptoBulk {H : Type} : DataW H → Nat
  | .lit (.string bytes) => bytes.length + 1
  | .lit _ => 1
  | .nil => 1
  | .ptr d => uptoBulk d + 1
  | .slice elems spare => uptoBulkAll elems + uptoBulkAll spare + 1
  | .agg parts => uptoBulkAll parts + 1
  | .iface _ d => uptoBulk d + 1
  | .map entries => uptoBulkEntries entries + 1
  | .held _ => 1
def uptoBulkAll {H : Type} : List (DataW H) → Nat
  | [] => 0
  | d :: r => uptoBulk d + uptoBulkAll r
def uptoBulkEntries {H : Type} : List (Lit × DataW H) → Nat
  | [] => 0
  | x :: r => uptoBulkEntry x + uptoBulkEntries r
def uptoBulkEntry {H : Type} : Lit × DataW H → Nat
  | (.string bytes, d) => bytes.length + uptoBulk d + 1
  | (_, d) => uptoBulk d + 1
 end
def uptoSmall : (H : Type) → List (DataW H) → Bool := fun _ ds => decide (uptoBulkAll ds ≤ 1048576)
def OpenSpec.upto (s : _root_.Go.ChangeSpec) : _root_.Go.OpenSpec := { _root_.Go.OpenSpec.ofChange s with cond := some uptoSmall }

/-- 'stopcocklaw02.DriftMay', WHERE WHAT IT READS IS OF BULK AT MOST 1048576: true; the input reads as it did. -/
def driftMayUptoRow : OpenClaim := { program := "ytnnpaeplbjfldaa", sum := "c37b09e8023b9cbc7f20f6ee4195c02e800b371a03d17d62419edf9b7e551677", func := "stopcock/stopcocklaw02.DriftMay", spec := "driftMay", apart := false, narrowed := true }
def DriftMayUptoSaid : Prop := driftMayUptoRow.holds Try.pinned (OpenSpec.upto driftMaySpec)

/-- 'stopcocklaw02.DriftAdds', WHERE WHAT IT READS IS OF BULK AT MOST 1048576: true; the input reads as it did. -/
def driftAddsUptoRow : OpenClaim := { program := "ytnnpaeplbjfldaa", sum := "c37b09e8023b9cbc7f20f6ee4195c02e800b371a03d17d62419edf9b7e551677", func := "stopcock/stopcocklaw02.DriftAdds", spec := "driftAdds", apart := false, narrowed := true }
def DriftAddsUptoSaid : Prop := driftAddsUptoRow.holds Try.pinned (OpenSpec.upto driftAddsSpec)

/-- 'stopcocklaw02.DriftShort', WHERE WHAT IT READS IS OF BULK AT MOST 1048576: true; the input reads as it did. -/
def driftShortUptoRow : OpenClaim := { program := "ytnnpaeplbjfldaa", sum := "c37b09e8023b9cbc7f20f6ee4195c02e800b371a03d17d62419edf9b7e551677", func := "stopcock/stopcocklaw02.DriftShort", spec := "driftShort", apart := false, narrowed := true }
def DriftShortUptoSaid : Prop := driftShortUptoRow.holds Try.pinned (OpenSpec.upto driftShortSpec)

/-- 'stopcocklaw02.DriftShorter', WHERE WHAT IT READS IS OF BULK AT MOST 1048576: true; the input reads as it did. -/
def driftShorterUptoRow : OpenClaim := { program := "ytnnpaeplbjfldaa", sum := "c37b09e8023b9cbc7f20f6ee4195c02e800b371a03d17d62419edf9b7e551677", func := "stopcock/stopcocklaw02.DriftShorter", spec := "driftShorter", apart := false, narrowed := true }
def DriftShorterUptoSaid : Prop := driftShorterUptoRow.holds Try.pinned (OpenSpec.upto driftShorterSpec)

/-- 'stopcocklaw02.DriftLeast', WHERE WHAT IT READS IS OF BULK AT MOST 1048576: true; the input reads as it did. -/
def driftLeastUptoRow : OpenClaim := { program := "ytnnpaeplbjfldaa", sum := "c37b09e8023b9cbc7f20f6ee4195c02e800b371a03d17d62419edf9b7e551677", func := "stopcock/stopcocklaw02.DriftLeast", spec := "driftLeast", apart := false, narrowed := true }
def DriftLeastUptoSaid : Prop := driftLeastUptoRow.holds Try.pinned (OpenSpec.upto driftLeastSpec)

/-- 'stopcocklaw02.DriftMost', WHERE WHAT IT READS IS OF BULK AT MOST 1048576: true; the input reads as it did. -/
def driftMostUptoRow : OpenClaim := { program := "ytnnpaeplbjfldaa", sum := "c37b09e8023b9cbc7f20f6ee4195c02e800b371a03d17d62419edf9b7e551677", func := "stopcock/stopcocklaw02.DriftMost", spec := "driftMost", apart := false, narrowed := true }
def DriftMostUptoSaid : Prop := driftMostUptoRow.holds Try.pinned (OpenSpec.upto driftMostSpec)

/-- 'stopcocklaw02.DriftSoonest', WHERE WHAT IT READS IS OF BULK AT MOST 1048576: true; the input reads as it did. -/
def driftSoonestUptoRow : OpenClaim := { program := "ytnnpaeplbjfldaa", sum := "c37b09e8023b9cbc7f20f6ee4195c02e800b371a03d17d62419edf9b7e551677", func := "stopcock/stopcocklaw02.DriftSoonest", spec := "driftSoonest", apart := false, narrowed := true }
def DriftSoonestUptoSaid : Prop := driftSoonestUptoRow.holds Try.pinned (OpenSpec.upto driftSoonestSpec)

/-- 'stopcocklaw02.DriftLatest', WHERE WHAT IT READS IS OF BULK AT MOST 1048576: true; the input reads as it did. -/
def driftLatestUptoRow : OpenClaim := { program := "ytnnpaeplbjfldaa", sum := "c37b09e8023b9cbc7f20f6ee4195c02e800b371a03d17d62419edf9b7e551677", func := "stopcock/stopcocklaw02.DriftLatest", spec := "driftLatest", apart := false, narrowed := true }
def DriftLatestUptoSaid : Prop := driftLatestUptoRow.holds Try.pinned (OpenSpec.upto driftLatestSpec)

/-- 'stopcocklaw02.DriftSafe', WHERE WHAT IT READS IS OF BULK AT MOST 1048576: true; the input reads as it did. -/
def driftSafeUptoRow : OpenClaim := { program := "ytnnpaeplbjfldaa", sum := "c37b09e8023b9cbc7f20f6ee4195c02e800b371a03d17d62419edf9b7e551677", func := "stopcock/stopcocklaw02.DriftSafe", spec := "driftSafe", apart := false, narrowed := true }
def DriftSafeUptoSaid : Prop := driftSafeUptoRow.holds Try.pinned (OpenSpec.upto driftSafeSpec)

/-- 'stopcocklaw02.DriftEnds', WHERE WHAT IT READS IS OF BULK AT MOST 1048576: true; the input reads as it did. -/
def driftEndsUptoRow : OpenClaim := { program := "ytnnpaeplbjfldaa", sum := "c37b09e8023b9cbc7f20f6ee4195c02e800b371a03d17d62419edf9b7e551677", func := "stopcock/stopcocklaw02.DriftEnds", spec := "driftEnds", apart := false, narrowed := true }
def DriftEndsUptoSaid : Prop := driftEndsUptoRow.holds Try.pinned (OpenSpec.upto driftEndsSpec)

end Rows
end Go.Proofs.Ytnnpaeplbjfldaa
