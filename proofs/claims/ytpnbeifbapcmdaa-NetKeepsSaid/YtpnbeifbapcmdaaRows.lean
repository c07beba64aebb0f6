/-
  No cell of these rows narrows 'for every input' (looked for: loops, veiled, ifaces, maps, wideKeys, modest, calm, conditions, laid).
  DERIVED. THE GIVEN ROWS OF THIS SEAT. 6 by the template 'for every input the law returns true; each argument reads behind the call as it read before'; 0 by the template 'total and deterministic' (their statements: YtpnbeifbapcmdaaTotals.lean).
  GIVEN WITH THE SEED: the statements are not yours to turn. If you find one false, say at which input.
  Laid BY PROGRAM, IN A SANDBOX (cutbox-rows.mjs): the forced cells as the released guide's own fill.sh prints them over the translation 38f2658a847c9733… (all of the seat's roots in one cut). By AI agents, Wed Nov 11 2026. No macro, syntax, notation, axiom, sorry.
-/
import Derived.Test.YtpnbeifbapcmdaaChecked
import GoSem.Claim
import GoSem.ClaimJoined
import GoSem.ClaimMapViews
import Derived.JoinedTies
import Derived.KernelRfl
namespace Go.Proofs.Ytpnbeifbapcmdaa
/- THE CELL 'sum', in the pinned program and in every row, IS THE sha256 OF THE DUMP (.gsa) THAT YtpnbeifbapcmdaaProg.lean LOADS. Nothing in Lean hashes anything: it is a label: what it is worth is what the hold of that sum in a sandbox is worth. -/
noncomputable def Try.pinned : Pinned := { name := "ytpnbeifbapcmdaa", sum := "38f2658a847c97331c06d096ce97da595e59a284e01e3662920fbba0cef3b1a2", checked := Try.checked }
namespace Rows
def none {H : Type} : Left H := { results := [], args := [] }

/-- 'stopcocklaw11.NetKeeps': WHATEVER THE INPUT: true; the input reads as it did. -/
def netKeepsSpec : ChangeSpec := { name := "netKeeps", fn := fun _ => fun
  | [d] => { results := [.lit (.bool true)], args := [d] }
  | _ => none }
def netKeepsRow : OpenClaim := { program := "ytpnbeifbapcmdaa", sum := "38f2658a847c97331c06d096ce97da595e59a284e01e3662920fbba0cef3b1a2", func := "stopcock/stopcocklaw11.NetKeeps", spec := "netKeeps", plainKeys := false, apart := false }
def NetKeepsSaid : Prop := netKeepsRow.holds Try.pinned (OpenSpec.ofChange netKeepsSpec)

/-- ITS FALSE NEIGHBOUR: 'it returns false'. Refute it at one input. -/
def netKeepsWrong : ChangeSpec := { name := "netKeeps", fn := fun _ => fun
  | [d] => { results := [.lit (.bool false)], args := [d] }
  | _ => none }
def NetKeepsWrongFalsely : Prop := netKeepsRow.holds Try.pinned (OpenSpec.ofChange netKeepsWrong)

/-- 'stopcocklaw11.NetGoes': WHATEVER THE INPUT: true; the input reads as it did. -/
def netGoesSpec : ChangeSpec := { name := "netGoes", fn := fun _ => fun
  | [d] => { results := [.lit (.bool true)], args := [d] }
  | _ => none }
def netGoesRow : OpenClaim := { program := "ytpnbeifbapcmdaa", sum := "38f2658a847c97331c06d096ce97da595e59a284e01e3662920fbba0cef3b1a2", func := "stopcock/stopcocklaw11.NetGoes", spec := "netGoes", plainKeys := false, apart := false }
def NetGoesSaid : Prop := netGoesRow.holds Try.pinned (OpenSpec.ofChange netGoesSpec)

/-- ITS FALSE NEIGHBOUR: 'it returns false'. Refute it at one input. -/
def netGoesWrong : ChangeSpec := { name := "netGoes", fn := fun _ => fun
  | [d] => { results := [.lit (.bool false)], args := [d] }
  | _ => none }
def NetGoesWrongFalsely : Prop := netGoesRow.holds Try.pinned (OpenSpec.ofChange netGoesWrong)

/-- 'stopcocklaw09.StreamCuts': WHATEVER THE INPUT: true; the input reads as it did. -/
def streamCutsSpec : ChangeSpec := { name := "streamCuts", fn := fun _ => fun
  | [d1, d2] => { results := [.lit (.bool true)], args := [d1, d2] }
  | _ => none }
def streamCutsRow : OpenClaim := { program := "ytpnbeifbapcmdaa", sum := "38f2658a847c97331c06d096ce97da595e59a284e01e3662920fbba0cef3b1a2", func := "stopcock/stopcocklaw09.StreamCuts", spec := "streamCuts", plainKeys := false, apart := false }
def StreamCutsSaid : Prop := streamCutsRow.holds Try.pinned (OpenSpec.ofChange streamCutsSpec)

/-- ITS FALSE NEIGHBOUR: 'it returns false'. Refute it at one input. -/
def streamCutsWrong : ChangeSpec := { name := "streamCuts", fn := fun _ => fun
  | [d1, d2] => { results := [.lit (.bool false)], args := [d1, d2] }
  | _ => none }
def StreamCutsWrongFalsely : Prop := streamCutsRow.holds Try.pinned (OpenSpec.ofChange streamCutsWrong)

/-- 'stopcocklaw09.StreamFeeds': WHATEVER THE INPUT: true; the input reads as it did. -/
def streamFeedsSpec : ChangeSpec := { name := "streamFeeds", fn := fun _ => fun
  | [d1, d2] => { results := [.lit (.bool true)], args := [d1, d2] }
  | _ => none }
def streamFeedsRow : OpenClaim := { program := "ytpnbeifbapcmdaa", sum := "38f2658a847c97331c06d096ce97da595e59a284e01e3662920fbba0cef3b1a2", func := "stopcock/stopcocklaw09.StreamFeeds", spec := "streamFeeds", plainKeys := false, apart := false }
def StreamFeedsSaid : Prop := streamFeedsRow.holds Try.pinned (OpenSpec.ofChange streamFeedsSpec)

/-- ITS FALSE NEIGHBOUR: 'it returns false'. Refute it at one input. -/
def streamFeedsWrong : ChangeSpec := { name := "streamFeeds", fn := fun _ => fun
  | [d1, d2] => { results := [.lit (.bool false)], args := [d1, d2] }
  | _ => none }
def StreamFeedsWrongFalsely : Prop := streamFeedsRow.holds Try.pinned (OpenSpec.ofChange streamFeedsWrong)

/-- 'stopcocklaw09.StreamBytes': WHATEVER THE INPUT: true; the input reads as it did. -/
def streamBytesSpec : ChangeSpec := { name := "streamBytes", fn := fun _ => fun
  | [d] => { results := [.lit (.bool true)], args := [d] }
  | _ => none }
def streamBytesRow : OpenClaim := { program := "ytpnbeifbapcmdaa", sum := "38f2658a847c97331c06d096ce97da595e59a284e01e3662920fbba0cef3b1a2", func := "stopcock/stopcocklaw09.StreamBytes", spec := "streamBytes", plainKeys := false, apart := false }
def StreamBytesSaid : Prop := streamBytesRow.holds Try.pinned (OpenSpec.ofChange streamBytesSpec)

/-- ITS FALSE NEIGHBOUR: 'it returns false'. Refute it at one input. -/
def streamBytesWrong : ChangeSpec := { name := "streamBytes", fn := fun _ => fun
  | [d] => { results := [.lit (.bool false)], args := [d] }
  | _ => none }
def StreamBytesWrongFalsely : Prop := streamBytesRow.holds Try.pinned (OpenSpec.ofChange streamBytesWrong)

/-- 'stopcocklaw09.StreamBack': WHATEVER THE INPUT: true; the input reads as it did. -/
def streamBackSpec : ChangeSpec := { name := "streamBack", fn := fun _ => fun
  | [d] => { results := [.lit (.bool true)], args := [d] }
  | _ => none }
def streamBackRow : OpenClaim := { program := "ytpnbeifbapcmdaa", sum := "38f2658a847c97331c06d096ce97da595e59a284e01e3662920fbba0cef3b1a2", func := "stopcock/stopcocklaw09.StreamBack", spec := "streamBack", plainKeys := false, apart := false }
def StreamBackSaid : Prop := streamBackRow.holds Try.pinned (OpenSpec.ofChange streamBackSpec)

/-- ITS FALSE NEIGHBOUR: 'it returns false'. Refute it at one input. -/
def streamBackWrong : ChangeSpec := { name := "streamBack", fn := fun _ => fun
  | [d] => { results := [.lit (.bool false)], args := [d] }
  | _ => none }
def StreamBackWrongFalsely : Prop := streamBackRow.holds Try.pinned (OpenSpec.ofChange streamBackWrong)

/- THE SECOND FORM. 'bulk': how many values and letters a reading holds, each counted each time it is reached (what is shared counts as often as it is met; a slice's spare places count too). A statement '..UptoSaid' is the law's where the arguments, and the package variables that the reading takes, are together of bulk at most 1048576: NARROWER than '..Said'. Prove '..Said' where nothing that the law and all that it calls make is longer than what came in: it says more and counts as full. Else prove '..UptoSaid'. A law counts once. -/
mutual
def uptoBulk {H : Type} : DataW H → Nat
  | .lit (.string bytes) => bytes.length + 1
  | .lit _ => 1
  | .nil => 1
  | .ptr d => uptoBulk d + 1
  | .slice elems spare => uptoBulkAll elems + uptoBulkAll spare + 1
  | .agg parts => uptoBulkAll parts + 1
  | .iface _ d => uptoBulk d + 1
  | .map entries => uptoBulkEntries entries + 1
  | .held _ => 1
def uptoBulkAll {H : Type} : List (DataW H) → Nat
  | [] => 0
  | d :: r => uptoBulk d + uptoBulkAll r
def uptoBulkEntries {H : Type} : List (Lit × DataW H) → Nat
  | [] => 0
  | x :: r => uptoBulkEntry x + uptoBulkEntries r
def uptoBulkEntry {H : Type} : Lit × DataW H → Nat
  | (.string bytes, d) => bytes.length + uptoBulk d + 1
  | (_, d) => uptoBulk d + 1
 end
def uptoSmall : (H : Type) → List (DataW H) → Bool := fun _ ds => decide (uptoBulkAll ds ≤ 1048576)
def OpenSpec.upto (s : _root_.Go.ChangeSpec) : _root_.Go.OpenSpec := { _root_.Go.OpenSpec.ofChange s with cond := some uptoSmall }

/-- 'stopcocklaw11.NetKeeps', WHERE WHAT IT READS IS OF BULK AT MOST 1048576: true; the input reads as it did. -/
def netKeepsUptoRow : OpenClaim := { program := "ytpnbeifbapcmdaa", sum := "38f2658a847c97331c06d096ce97da595e59a284e01e3662920fbba0cef3b1a2", func := "stopcock/stopcocklaw11.NetKeeps", spec := "netKeeps", plainKeys := false, apart := false, narrowed := true }
def NetKeepsUptoSaid : Prop := netKeepsUptoRow.holds Try.pinned (OpenSpec.upto netKeepsSpec)

/-- 'stopcocklaw11.NetGoes', WHERE WHAT IT READS IS OF BULK AT MOST 1048576: true; the input reads as it did. -/
def netGoesUptoRow : OpenClaim := { program := "ytpnbeifbapcmdaa", sum := "38f2658a847c97331c06d096ce97da595e59a284e01e3662920fbba0cef3b1a2", func := "stopcock/stopcocklaw11.NetGoes", spec := "netGoes", plainKeys := false, apart := false, narrowed := true }
def NetGoesUptoSaid : Prop := netGoesUptoRow.holds Try.pinned (OpenSpec.upto netGoesSpec)

/-- 'stopcocklaw09.StreamCuts', WHERE WHAT IT READS IS OF BULK AT MOST 1048576: true; the input reads as it did. -/
def streamCutsUptoRow : OpenClaim := { program := "ytpnbeifbapcmdaa", sum := "38f2658a847c97331c06d096ce97da595e59a284e01e3662920fbba0cef3b1a2", func := "stopcock/stopcocklaw09.StreamCuts", spec := "streamCuts", plainKeys := false, apart := false, narrowed := true }
def StreamCutsUptoSaid : Prop := streamCutsUptoRow.holds Try.pinned (OpenSpec.upto streamCutsSpec)

/-- 'stopcocklaw09.StreamFeeds', WHERE WHAT IT READS IS OF BULK AT MOST 1048576: true; the input reads as it did. -/
def streamFeedsUptoRow : OpenClaim := { program := "ytpnbeifbapcmdaa", sum := "38f2658a847c97331c06d096ce97da595e59a284e01e3662920fbba0cef3b1a2", func := "stopcock/stopcocklaw09.StreamFeeds", spec := "streamFeeds", plainKeys := false, apart := false, narrowed := true }
def StreamFeedsUptoSaid : Prop := streamFeedsUptoRow.holds Try.pinned (OpenSpec.upto streamFeedsSpec)

/-- 'stopcocklaw09.StreamBytes', WHERE WHAT IT READS IS OF BULK AT MOST 1048576: true; the input reads as it did. -/
def streamBytesUptoRow : OpenClaim := { program := "ytpnbeifbapcmdaa", sum := "38f2658a847c97331c06d096ce97da595e59a284e01e3662920fbba0cef3b1a2", func := "stopcock/stopcocklaw09.StreamBytes", spec := "streamBytes", plainKeys := false, apart := false, narrowed := true }
def StreamBytesUptoSaid : Prop := streamBytesUptoRow.holds Try.pinned (OpenSpec.upto streamBytesSpec)

/-- 'stopcocklaw09.StreamBack', WHERE WHAT IT READS IS OF BULK AT MOST 1048576: true; the input reads as it did. -/
def streamBackUptoRow : OpenClaim := { program := "ytpnbeifbapcmdaa", sum := "38f2658a847c97331c06d096ce97da595e59a284e01e3662920fbba0cef3b1a2", func := "stopcock/stopcocklaw09.StreamBack", spec := "streamBack", plainKeys := false, apart := false, narrowed := true }
def StreamBackUptoSaid : Prop := streamBackUptoRow.holds Try.pinned (OpenSpec.upto streamBackSpec)

end Rows
end Go.Proofs.Ytpnbeifbapcmdaa
