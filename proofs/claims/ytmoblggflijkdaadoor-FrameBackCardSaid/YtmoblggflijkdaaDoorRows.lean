/-
  NARROWER THAN 'FOR EVERY INPUT', by the rows' own cells (each row's printed sentence says how): FrameSeals: laid · FrameOpens: laid · FrameBack: laid · FrameSame: laid · FrameBursts: laid · FrameCuts: laid.
  DERIVED. THE GIVEN ROWS OF THIS SEAT. 6 by the template 'for every input the law returns true; each argument reads behind the call as it read before'; 0 by the template 'total and deterministic' (their statements: YtmoblggflijkdaaDoorTotals.lean).
  GIVEN WITH THE SEED: the statements are not yours to turn. If you find one false, say at which input.
  Laid BY PROGRAM, IN A SANDBOX (cutbox-rows.mjs): the forced cells as the released guide's own fill.sh prints them over the translation a7c85760de1dbfab… (all of the seat's roots in one cut). By AI agents, Wed Nov 11 2026. No macro, syntax, notation, axiom, sorry.
-/
import Derived.Test.YtmoblggflijkdaaDoorChecked
import GoSem.Claim
import GoSem.ClaimJoined
import GoSem.ClaimMapViews
import Derived.JoinedTies
import Derived.KernelRfl
namespace Go.Proofs.YtmoblggflijkdaaDoor
/- THE CELL 'sum', in the pinned program and in every row, IS THE sha256 OF THE DUMP (.gsa) THAT YtmoblggflijkdaaDoorProg.lean LOADS. Nothing in Lean hashes anything: it is a label: what it is worth is what the hold of that sum in a sandbox is worth. -/
noncomputable def Tryd.pinned : Pinned := { name := "ytmoblggflijkdaadoor", sum := "a7c85760de1dbfab3c430aa840ad2908bbf34ed90e128f9da8078f64cc2aec83", checked := Tryd.checked }
namespace Rows
def none {H : Type} : Left H := { results := [], args := [] }

/- WHAT THE LISTED PACKAGE-LEVEL VARIABLES READ AS WHEN THE CALL BEGINS. Each datum BY PROGRAM (the guide's laid-datum.mjs) off the statement by which the dump's own 'gosem.cut.vars' lays the variable. In a bare row this is a premise. The card (YtmoblggflijkdaaDoorCards.lean) ties it to the program's text. -/
def laid_stopcock_octet_steps {H : Type} : DataW H := .agg [.lit (.int .u32 0), .lit (.int .u32 79764919), .lit (.int .u32 159529838), .lit (.int .u32 222504665), .lit (.int .u32 319059676), .lit (.int .u32 398814059), .lit (.int .u32 445009330), .lit (.int .u32 507990021), .lit (.int .u32 638119352), .lit (.int .u32 583659535), .lit (.int .u32 797628118), .lit (.int .u32 726387553), .lit (.int .u32 890018660), .lit (.int .u32 835552979), .lit (.int .u32 1015980042), .lit (.int .u32 944750013)]

/-- 'stopcocklaw07.FrameSeals': WHATEVER THE INPUT: true; the input reads as it did. -/
def frameSealsSpec : ChangeSpec := { name := "frameSeals", fn := fun _ => fun
  | [d] => { results := [.lit (.bool true)], args := [d] }
  | _ => none }
def frameSealsRow : OpenClaim := { program := "ytmoblggflijkdaadoor", sum := "a7c85760de1dbfab3c430aa840ad2908bbf34ed90e128f9da8078f64cc2aec83", func := "stopcock/stopcocklaw07.FrameSeals", spec := "frameSeals", named := ["stopcock/octet.steps"], apart := false, laid := [("stopcock/octet.steps", laid_stopcock_octet_steps)] }
def FrameSealsSaid : Prop := frameSealsRow.holds Tryd.pinned (OpenSpec.ofChange frameSealsSpec)

/-- ITS FALSE NEIGHBOUR: 'it returns false'. Refute it at one input. -/
def frameSealsWrong : ChangeSpec := { name := "frameSeals", fn := fun _ => fun
  | [d] => { results := [.lit (.bool false)], args := [d] }
  | _ => none }
def FrameSealsWrongFalsely : Prop := frameSealsRow.holds Tryd.pinned (OpenSpec.ofChange frameSealsWrong)

/-- 'stopcocklaw07.FrameOpens': WHATEVER THE INPUT: true; the input reads as it did. -/
def frameOpensSpec : ChangeSpec := { name := "frameOpens", fn := fun _ => fun
  | [d] => { results := [.lit (.bool true)], args := [d] }
  | _ => none }
def frameOpensRow : OpenClaim := { program := "ytmoblggflijkdaadoor", sum := "a7c85760de1dbfab3c430aa840ad2908bbf34ed90e128f9da8078f64cc2aec83", func := "stopcock/stopcocklaw07.FrameOpens", spec := "frameOpens", named := ["stopcock/octet.steps"], apart := false, laid := [("stopcock/octet.steps", laid_stopcock_octet_steps)] }
def FrameOpensSaid : Prop := frameOpensRow.holds Tryd.pinned (OpenSpec.ofChange frameOpensSpec)

/-- ITS FALSE NEIGHBOUR: 'it returns false'. Refute it at one input. -/
def frameOpensWrong : ChangeSpec := { name := "frameOpens", fn := fun _ => fun
  | [d] => { results := [.lit (.bool false)], args := [d] }
  | _ => none }
def FrameOpensWrongFalsely : Prop := frameOpensRow.holds Tryd.pinned (OpenSpec.ofChange frameOpensWrong)

/-- 'stopcocklaw07.FrameBack': WHATEVER THE INPUT: true; the input reads as it did. -/
def frameBackSpec : ChangeSpec := { name := "frameBack", fn := fun _ => fun
  | [d1, d2] => { results := [.lit (.bool true)], args := [d1, d2] }
  | _ => none }
def frameBackRow : OpenClaim := { program := "ytmoblggflijkdaadoor", sum := "a7c85760de1dbfab3c430aa840ad2908bbf34ed90e128f9da8078f64cc2aec83", func := "stopcock/stopcocklaw07.FrameBack", spec := "frameBack", named := ["stopcock/octet.steps"], apart := false, laid := [("stopcock/octet.steps", laid_stopcock_octet_steps)] }
def FrameBackSaid : Prop := frameBackRow.holds Tryd.pinned (OpenSpec.ofChange frameBackSpec)

/-- ITS FALSE NEIGHBOUR: 'it returns false'. Refute it at one input. -/
def frameBackWrong : ChangeSpec := { name := "frameBack", fn := fun _ => fun
  | [d1, d2] => { results := [.lit (.bool false)], args := [d1, d2] }
  | _ => none }
def FrameBackWrongFalsely : Prop := frameBackRow.holds Tryd.pinned (OpenSpec.ofChange frameBackWrong)

/-- 'stopcocklaw07.FrameSame': WHATEVER THE INPUT: true; the input reads as it did. -/
def frameSameSpec : ChangeSpec := { name := "frameSame", fn := fun _ => fun
  | [d] => { results := [.lit (.bool true)], args := [d] }
  | _ => none }
def frameSameRow : OpenClaim := { program := "ytmoblggflijkdaadoor", sum := "a7c85760de1dbfab3c430aa840ad2908bbf34ed90e128f9da8078f64cc2aec83", func := "stopcock/stopcocklaw07.FrameSame", spec := "frameSame", named := ["stopcock/octet.steps"], apart := false, laid := [("stopcock/octet.steps", laid_stopcock_octet_steps)] }
def FrameSameSaid : Prop := frameSameRow.holds Tryd.pinned (OpenSpec.ofChange frameSameSpec)

/-- ITS FALSE NEIGHBOUR: 'it returns false'. Refute it at one input. -/
def frameSameWrong : ChangeSpec := { name := "frameSame", fn := fun _ => fun
  | [d] => { results := [.lit (.bool false)], args := [d] }
  | _ => none }
def FrameSameWrongFalsely : Prop := frameSameRow.holds Tryd.pinned (OpenSpec.ofChange frameSameWrong)

/-- 'stopcocklaw07.FrameBursts': WHATEVER THE INPUT: true; the input reads as it did. -/
def frameBurstsSpec : ChangeSpec := { name := "frameBursts", fn := fun _ => fun
  | [d1, d2, d3] => { results := [.lit (.bool true)], args := [d1, d2, d3] }
  | _ => none }
def frameBurstsRow : OpenClaim := { program := "ytmoblggflijkdaadoor", sum := "a7c85760de1dbfab3c430aa840ad2908bbf34ed90e128f9da8078f64cc2aec83", func := "stopcock/stopcocklaw07.FrameBursts", spec := "frameBursts", named := ["stopcock/octet.steps"], apart := false, laid := [("stopcock/octet.steps", laid_stopcock_octet_steps)] }
def FrameBurstsSaid : Prop := frameBurstsRow.holds Tryd.pinned (OpenSpec.ofChange frameBurstsSpec)

/-- ITS FALSE NEIGHBOUR: 'it returns false'. Refute it at one input. -/
def frameBurstsWrong : ChangeSpec := { name := "frameBursts", fn := fun _ => fun
  | [d1, d2, d3] => { results := [.lit (.bool false)], args := [d1, d2, d3] }
  | _ => none }
def FrameBurstsWrongFalsely : Prop := frameBurstsRow.holds Tryd.pinned (OpenSpec.ofChange frameBurstsWrong)

/-- 'stopcocklaw07.FrameCuts': WHATEVER THE INPUT: true; the input reads as it did. -/
def frameCutsSpec : ChangeSpec := { name := "frameCuts", fn := fun _ => fun
  | [d1, d2] => { results := [.lit (.bool true)], args := [d1, d2] }
  | _ => none }
def frameCutsRow : OpenClaim := { program := "ytmoblggflijkdaadoor", sum := "a7c85760de1dbfab3c430aa840ad2908bbf34ed90e128f9da8078f64cc2aec83", func := "stopcock/stopcocklaw07.FrameCuts", spec := "frameCuts", named := ["stopcock/octet.steps"], apart := false, laid := [("stopcock/octet.steps", laid_stopcock_octet_steps)] }
def FrameCutsSaid : Prop := frameCutsRow.holds Tryd.pinned (OpenSpec.ofChange frameCutsSpec)

/-- ITS FALSE NEIGHBOUR: 'it returns false'. Refute it at one input. -/
def frameCutsWrong : ChangeSpec := { name := "frameCuts", fn := fun _ => fun
  | [d1, d2] => { results := [.lit (.bool false)], args := [d1, d2] }
  | _ => none }
def FrameCutsWrongFalsely : Prop := frameCutsRow.holds Tryd.pinned (OpenSpec.ofChange frameCutsWrong)

/- THE SECOND FORM. 'bulk': how many values and letters a reading holds, each counted each time it is reached (what is shared counts as often as it is met; a slice's spare places count too). A statement '..UptoSaid' is the law's where the arguments, and the package variables that the reading takes, are together of bulk at most 1048576: NARROWER than '..Said'. Prove '..Said' where nothing that the law and all that it calls make is longer than what came in: it says more and counts as full. Else prove '..UptoSaid'. A law counts once. -/
mutual
def uptoBulk {H : Type} : DataW H → Nat
  | .lit (.string bytes) => bytes.length + 1
  | .lit _ => 1
  | .nil => 1
  | .ptr d => uptoBulk d + 1
  | .slice elems spare => uptoBulkAll elems + uptoBulkAll spare + 1
  | .agg parts => uptoBulkAll parts + 1
  | .iface _ d => uptoBulk d + 1
  | .map entries => uptoBulkEntries entries + 1
  | .held _ => 1
def uptoBulkAll {H : Type} : List (DataW H) → Nat
  | [] => 0
  | d :: r => uptoBulk d + uptoBulkAll r
def uptoBulkEntries {H : Type} : List (Lit × DataW H) → Nat
  | [] => 0
  | x :: r => uptoBulkEntry x + uptoBulkEntries r
def uptoBulkEntry {H : Type} : Lit × DataW H → Nat
  | (.string bytes, d) => bytes.length + uptoBulk d + 1
  | (_, d) => uptoBulk d + 1
 end
def uptoSmall : (H : Type) → List (DataW H) → Bool := fun _ ds => decide (uptoBulkAll ds ≤ 1048576)
def OpenSpec.upto (s : _root_.Go.ChangeSpec) : _root_.Go.OpenSpec := { _root_.Go.OpenSpec.ofChange s with cond := some uptoSmall }

/-- 'stopcocklaw07.FrameSeals', WHERE WHAT IT READS IS OF BULK AT MOST 1048576: true; the input reads as it did. -/
def frameSealsUptoRow : OpenClaim := { program := "ytmoblggflijkdaadoor", sum := "a7c85760de1dbfab3c430aa840ad2908bbf34ed90e128f9da8078f64cc2aec83", func := "stopcock/stopcocklaw07.FrameSeals", spec := "frameSeals", named := ["stopcock/octet.steps"], apart := false, laid := [("stopcock/octet.steps", laid_stopcock_octet_steps)], narrowed := true }
def FrameSealsUptoSaid : Prop := frameSealsUptoRow.holds Tryd.pinned (OpenSpec.upto frameSealsSpec)

/-- 'stopcocklaw07.FrameOpens', WHERE WHAT IT READS IS OF BULK AT MOST 1048576: true; the input reads as it did. -/
def frameOpensUptoRow : OpenClaim := { program := "ytmoblggflijkdaadoor", sum := "a7c85760de1dbfab3c430aa840ad2908bbf34ed90e128f9da8078f64cc2aec83", func := "stopcock/stopcocklaw07.FrameOpens", spec := "frameOpens", named := ["stopcock/octet.steps"], apart := false, laid := [("stopcock/octet.steps", laid_stopcock_octet_steps)], narrowed := true }
def FrameOpensUptoSaid : Prop := frameOpensUptoRow.holds Tryd.pinned (OpenSpec.upto frameOpensSpec)

/-- 'stopcocklaw07.FrameBack', WHERE WHAT IT READS IS OF BULK AT MOST 1048576: true; the input reads as it did. -/
def frameBackUptoRow : OpenClaim := { program := "ytmoblggflijkdaadoor", sum := "a7c85760de1dbfab3c430aa840ad2908bbf34ed90e128f9da8078f64cc2aec83", func := "stopcock/stopcocklaw07.FrameBack", spec := "frameBack", named := ["stopcock/octet.steps"], apart := false, laid := [("stopcock/octet.steps", laid_stopcock_octet_steps)], narrowed := true }
def FrameBackUptoSaid : Prop := frameBackUptoRow.holds Tryd.pinned (OpenSpec.upto frameBackSpec)

/-- 'stopcocklaw07.FrameSame', WHERE WHAT IT READS IS OF BULK AT MOST 1048576: true; the input reads as it did. -/
def frameSameUptoRow : OpenClaim := { program := "ytmoblggflijkdaadoor", sum := "a7c85760de1dbfab3c430aa840ad2908bbf34ed90e128f9da8078f64cc2aec83", func := "stopcock/stopcocklaw07.FrameSame", spec := "frameSame", named := ["stopcock/octet.steps"], apart := false, laid := [("stopcock/octet.steps", laid_stopcock_octet_steps)], narrowed := true }
def FrameSameUptoSaid : Prop := frameSameUptoRow.holds Tryd.pinned (OpenSpec.upto frameSameSpec)

/-- 'stopcocklaw07.FrameBursts', WHERE WHAT IT READS IS OF BULK AT MOST 1048576: true; the input reads as it did. -/
def frameBurstsUptoRow : OpenClaim := { program := "ytmoblggflijkdaadoor", sum := "a7c85760de1dbfab3c430aa840ad2908bbf34ed90e128f9da8078f64cc2aec83", func := "stopcock/stopcocklaw07.FrameBursts", spec := "frameBursts", named := ["stopcock/octet.steps"], apart := false, laid := [("stopcock/octet.steps", laid_stopcock_octet_steps)], narrowed := true }
def FrameBurstsUptoSaid : Prop := frameBurstsUptoRow.holds Tryd.pinned (OpenSpec.upto frameBurstsSpec)

/-- 'stopcocklaw07.FrameCuts', WHERE WHAT IT READS IS OF BULK AT MOST 1048576: true; the input reads as it did. -/
def frameCutsUptoRow : OpenClaim := { program := "ytmoblggflijkdaadoor", sum := "a7c85760de1dbfab3c430aa840ad2908bbf34ed90e128f9da8078f64cc2aec83", func := "stopcock/stopcocklaw07.FrameCuts", spec := "frameCuts", named := ["stopcock/octet.steps"], apart := false, laid := [("stopcock/octet.steps", laid_stopcock_octet_steps)], narrowed := true }
def FrameCutsUptoSaid : Prop := frameCutsUptoRow.holds Tryd.pinned (OpenSpec.upto frameCutsSpec)

end Rows
end Go.Proofs.YtmoblggflijkdaaDoor
