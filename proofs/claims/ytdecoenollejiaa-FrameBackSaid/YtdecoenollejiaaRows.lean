/-
  No cell of these rows narrows 'for every input' (looked for: loops, veiled, ifaces, maps, wideKeys, modest, calm, conditions, laid).
  DERIVED. THE GIVEN ROWS OF THIS SEAT. 12 by the template 'for every input the law returns true; each argument reads behind the call as it read before'; 0 by the template 'total and deterministic' (their statements: YtdecoenollejiaaTotals.lean).
  GIVEN WITH THE SEED: the statements are not yours to turn. If you find one false, say at which input.
  Laid BY PROGRAM, IN A SANDBOX (cutbox-rows.mjs): the forced cells as the released guide's own fill.sh prints them over the translation 65d1a951d9d92528… (all of the seat's roots in one cut). By AI agents, Wed Nov 11 2026. No macro, syntax, notation, axiom, sorry.
-/
import Derived.Test.YtdecoenollejiaaChecked
import GoSem.Claim
import GoSem.ClaimJoined
import GoSem.ClaimMapViews
import Derived.JoinedTies
import Derived.KernelRfl
namespace Go.Proofs.Ytdecoenollejiaa
/- THE CELL 'sum', in the pinned program and in every row, IS THE sha256 OF THE DUMP (.gsa) THAT YtdecoenollejiaaProg.lean LOADS. Nothing in Lean hashes anything: it is a label: what it is worth is what the hold of that sum in a sandbox is worth. -/
noncomputable def Try.pinned : Pinned := { name := "ytdecoenollejiaa", sum := "65d1a951d9d925287532ebbad8b89a4e6a1127e8968e0f1b339f5c1cbb3632a7", checked := Try.checked }
namespace Rows
def none {H : Type} : Left H := { results := [], args := [] }

/-- 'gimballaw10.CrcSums': WHATEVER THE INPUT: true; the input reads as it did. -/
def crcSumsSpec : ChangeSpec := { name := "crcSums", fn := fun _ => fun
  | [d1, d2] => { results := [.lit (.bool true)], args := [d1, d2] }
  | _ => none }
def crcSumsRow : OpenClaim := { program := "ytdecoenollejiaa", sum := "65d1a951d9d925287532ebbad8b89a4e6a1127e8968e0f1b339f5c1cbb3632a7", func := "gimbal/gimballaw10.CrcSums", spec := "crcSums", apart := false }
def CrcSumsSaid : Prop := crcSumsRow.holds Try.pinned (OpenSpec.ofChange crcSumsSpec)

/-- ITS FALSE NEIGHBOUR: 'it returns false'. Refute it at one input. -/
def crcSumsWrong : ChangeSpec := { name := "crcSums", fn := fun _ => fun
  | [d1, d2] => { results := [.lit (.bool false)], args := [d1, d2] }
  | _ => none }
def CrcSumsWrongFalsely : Prop := crcSumsRow.holds Try.pinned (OpenSpec.ofChange crcSumsWrong)

/-- 'gimballaw10.CrcSeals': WHATEVER THE INPUT: true; the input reads as it did. -/
def crcSealsSpec : ChangeSpec := { name := "crcSeals", fn := fun _ => fun
  | [d] => { results := [.lit (.bool true)], args := [d] }
  | _ => none }
def crcSealsRow : OpenClaim := { program := "ytdecoenollejiaa", sum := "65d1a951d9d925287532ebbad8b89a4e6a1127e8968e0f1b339f5c1cbb3632a7", func := "gimbal/gimballaw10.CrcSeals", spec := "crcSeals", apart := false }
def CrcSealsSaid : Prop := crcSealsRow.holds Try.pinned (OpenSpec.ofChange crcSealsSpec)

/-- ITS FALSE NEIGHBOUR: 'it returns false'. Refute it at one input. -/
def crcSealsWrong : ChangeSpec := { name := "crcSeals", fn := fun _ => fun
  | [d] => { results := [.lit (.bool false)], args := [d] }
  | _ => none }
def CrcSealsWrongFalsely : Prop := crcSealsRow.holds Try.pinned (OpenSpec.ofChange crcSealsWrong)

/-- 'gimballaw10.CrcGoesOn': WHATEVER THE INPUT: true; the input reads as it did. -/
def crcGoesOnSpec : ChangeSpec := { name := "crcGoesOn", fn := fun _ => fun
  | [d1, d2, d3, d4] => { results := [.lit (.bool true)], args := [d1, d2, d3, d4] }
  | _ => none }
def crcGoesOnRow : OpenClaim := { program := "ytdecoenollejiaa", sum := "65d1a951d9d925287532ebbad8b89a4e6a1127e8968e0f1b339f5c1cbb3632a7", func := "gimbal/gimballaw10.CrcGoesOn", spec := "crcGoesOn", apart := false }
def CrcGoesOnSaid : Prop := crcGoesOnRow.holds Try.pinned (OpenSpec.ofChange crcGoesOnSpec)

/-- ITS FALSE NEIGHBOUR: 'it returns false'. Refute it at one input. -/
def crcGoesOnWrong : ChangeSpec := { name := "crcGoesOn", fn := fun _ => fun
  | [d1, d2, d3, d4] => { results := [.lit (.bool false)], args := [d1, d2, d3, d4] }
  | _ => none }
def CrcGoesOnWrongFalsely : Prop := crcGoesOnRow.holds Try.pinned (OpenSpec.ofChange crcGoesOnWrong)

/-- 'gimballaw10.CrcTells': WHATEVER THE INPUT: true; the input reads as it did. -/
def crcTellsSpec : ChangeSpec := { name := "crcTells", fn := fun _ => fun
  | [d1, d2, d3] => { results := [.lit (.bool true)], args := [d1, d2, d3] }
  | _ => none }
def crcTellsRow : OpenClaim := { program := "ytdecoenollejiaa", sum := "65d1a951d9d925287532ebbad8b89a4e6a1127e8968e0f1b339f5c1cbb3632a7", func := "gimbal/gimballaw10.CrcTells", spec := "crcTells", apart := false }
def CrcTellsSaid : Prop := crcTellsRow.holds Try.pinned (OpenSpec.ofChange crcTellsSpec)

/-- ITS FALSE NEIGHBOUR: 'it returns false'. Refute it at one input. -/
def crcTellsWrong : ChangeSpec := { name := "crcTells", fn := fun _ => fun
  | [d1, d2, d3] => { results := [.lit (.bool false)], args := [d1, d2, d3] }
  | _ => none }
def CrcTellsWrongFalsely : Prop := crcTellsRow.holds Try.pinned (OpenSpec.ofChange crcTellsWrong)

/-- 'gimballaw10.CrcLinear': WHATEVER THE INPUT: true; the input reads as it did. -/
def crcLinearSpec : ChangeSpec := { name := "crcLinear", fn := fun _ => fun
  | [d1, d2, d3] => { results := [.lit (.bool true)], args := [d1, d2, d3] }
  | _ => none }
def crcLinearRow : OpenClaim := { program := "ytdecoenollejiaa", sum := "65d1a951d9d925287532ebbad8b89a4e6a1127e8968e0f1b339f5c1cbb3632a7", func := "gimbal/gimballaw10.CrcLinear", spec := "crcLinear", apart := false }
def CrcLinearSaid : Prop := crcLinearRow.holds Try.pinned (OpenSpec.ofChange crcLinearSpec)

/-- ITS FALSE NEIGHBOUR: 'it returns false'. Refute it at one input. -/
def crcLinearWrong : ChangeSpec := { name := "crcLinear", fn := fun _ => fun
  | [d1, d2, d3] => { results := [.lit (.bool false)], args := [d1, d2, d3] }
  | _ => none }
def CrcLinearWrongFalsely : Prop := crcLinearRow.holds Try.pinned (OpenSpec.ofChange crcLinearWrong)

/-- 'gimballaw10.CrcUnlike': WHATEVER THE INPUT: true; the input reads as it did. -/
def crcUnlikeSpec : ChangeSpec := { name := "crcUnlike", fn := fun _ => fun
  | [d1, d2, d3, d4] => { results := [.lit (.bool true)], args := [d1, d2, d3, d4] }
  | _ => none }
def crcUnlikeRow : OpenClaim := { program := "ytdecoenollejiaa", sum := "65d1a951d9d925287532ebbad8b89a4e6a1127e8968e0f1b339f5c1cbb3632a7", func := "gimbal/gimballaw10.CrcUnlike", spec := "crcUnlike", apart := false }
def CrcUnlikeSaid : Prop := crcUnlikeRow.holds Try.pinned (OpenSpec.ofChange crcUnlikeSpec)

/-- ITS FALSE NEIGHBOUR: 'it returns false'. Refute it at one input. -/
def crcUnlikeWrong : ChangeSpec := { name := "crcUnlike", fn := fun _ => fun
  | [d1, d2, d3, d4] => { results := [.lit (.bool false)], args := [d1, d2, d3, d4] }
  | _ => none }
def CrcUnlikeWrongFalsely : Prop := crcUnlikeRow.holds Try.pinned (OpenSpec.ofChange crcUnlikeWrong)

/-- 'gimballaw11.FrameWraps': WHATEVER THE INPUT: true; the input reads as it did. -/
def frameWrapsSpec : ChangeSpec := { name := "frameWraps", fn := fun _ => fun
  | [d1, d2] => { results := [.lit (.bool true)], args := [d1, d2] }
  | _ => none }
def frameWrapsRow : OpenClaim := { program := "ytdecoenollejiaa", sum := "65d1a951d9d925287532ebbad8b89a4e6a1127e8968e0f1b339f5c1cbb3632a7", func := "gimbal/gimballaw11.FrameWraps", spec := "frameWraps", unfollowed := true, recurses := true, apart := false }
def FrameWrapsSaid : Prop := frameWrapsRow.holds Try.pinned (OpenSpec.ofChange frameWrapsSpec)

/-- ITS FALSE NEIGHBOUR: 'it returns false'. Refute it at one input. -/
def frameWrapsWrong : ChangeSpec := { name := "frameWraps", fn := fun _ => fun
  | [d1, d2] => { results := [.lit (.bool false)], args := [d1, d2] }
  | _ => none }
def FrameWrapsWrongFalsely : Prop := frameWrapsRow.holds Try.pinned (OpenSpec.ofChange frameWrapsWrong)

/-- 'gimballaw11.FrameReads': WHATEVER THE INPUT: true; the input reads as it did. -/
def frameReadsSpec : ChangeSpec := { name := "frameReads", fn := fun _ => fun
  | [d] => { results := [.lit (.bool true)], args := [d] }
  | _ => none }
def frameReadsRow : OpenClaim := { program := "ytdecoenollejiaa", sum := "65d1a951d9d925287532ebbad8b89a4e6a1127e8968e0f1b339f5c1cbb3632a7", func := "gimbal/gimballaw11.FrameReads", spec := "frameReads", unfollowed := true, recurses := true, apart := false }
def FrameReadsSaid : Prop := frameReadsRow.holds Try.pinned (OpenSpec.ofChange frameReadsSpec)

/-- ITS FALSE NEIGHBOUR: 'it returns false'. Refute it at one input. -/
def frameReadsWrong : ChangeSpec := { name := "frameReads", fn := fun _ => fun
  | [d] => { results := [.lit (.bool false)], args := [d] }
  | _ => none }
def FrameReadsWrongFalsely : Prop := frameReadsRow.holds Try.pinned (OpenSpec.ofChange frameReadsWrong)

/-- 'gimballaw11.FrameChunks': WHATEVER THE INPUT: true; the input reads as it did. -/
def frameChunksSpec : ChangeSpec := { name := "frameChunks", fn := fun _ => fun
  | [d1, d2] => { results := [.lit (.bool true)], args := [d1, d2] }
  | _ => none }
def frameChunksRow : OpenClaim := { program := "ytdecoenollejiaa", sum := "65d1a951d9d925287532ebbad8b89a4e6a1127e8968e0f1b339f5c1cbb3632a7", func := "gimbal/gimballaw11.FrameChunks", spec := "frameChunks", unfollowed := true, recurses := true, apart := false }
def FrameChunksSaid : Prop := frameChunksRow.holds Try.pinned (OpenSpec.ofChange frameChunksSpec)

/-- ITS FALSE NEIGHBOUR: 'it returns false'. Refute it at one input. -/
def frameChunksWrong : ChangeSpec := { name := "frameChunks", fn := fun _ => fun
  | [d1, d2] => { results := [.lit (.bool false)], args := [d1, d2] }
  | _ => none }
def FrameChunksWrongFalsely : Prop := frameChunksRow.holds Try.pinned (OpenSpec.ofChange frameChunksWrong)

/-- 'gimballaw11.FrameBack': WHATEVER THE INPUT: true; the input reads as it did. -/
def frameBackSpec : ChangeSpec := { name := "frameBack", fn := fun _ => fun
  | [d1, d2] => { results := [.lit (.bool true)], args := [d1, d2] }
  | _ => none }
def frameBackRow : OpenClaim := { program := "ytdecoenollejiaa", sum := "65d1a951d9d925287532ebbad8b89a4e6a1127e8968e0f1b339f5c1cbb3632a7", func := "gimbal/gimballaw11.FrameBack", spec := "frameBack", unfollowed := true, recurses := true, apart := false }
def FrameBackSaid : Prop := frameBackRow.holds Try.pinned (OpenSpec.ofChange frameBackSpec)

/-- ITS FALSE NEIGHBOUR: 'it returns false'. Refute it at one input. -/
def frameBackWrong : ChangeSpec := { name := "frameBack", fn := fun _ => fun
  | [d1, d2] => { results := [.lit (.bool false)], args := [d1, d2] }
  | _ => none }
def FrameBackWrongFalsely : Prop := frameBackRow.holds Try.pinned (OpenSpec.ofChange frameBackWrong)

/-- 'gimballaw11.FrameTurned': WHATEVER THE INPUT: true; the input reads as it did. -/
def frameTurnedSpec : ChangeSpec := { name := "frameTurned", fn := fun _ => fun
  | [d1, d2, d3, d4, d5] => { results := [.lit (.bool true)], args := [d1, d2, d3, d4, d5] }
  | _ => none }
def frameTurnedRow : OpenClaim := { program := "ytdecoenollejiaa", sum := "65d1a951d9d925287532ebbad8b89a4e6a1127e8968e0f1b339f5c1cbb3632a7", func := "gimbal/gimballaw11.FrameTurned", spec := "frameTurned", unfollowed := true, recurses := true, apart := false }
def FrameTurnedSaid : Prop := frameTurnedRow.holds Try.pinned (OpenSpec.ofChange frameTurnedSpec)

/-- ITS FALSE NEIGHBOUR: 'it returns false'. Refute it at one input. -/
def frameTurnedWrong : ChangeSpec := { name := "frameTurned", fn := fun _ => fun
  | [d1, d2, d3, d4, d5] => { results := [.lit (.bool false)], args := [d1, d2, d3, d4, d5] }
  | _ => none }
def FrameTurnedWrongFalsely : Prop := frameTurnedRow.holds Try.pinned (OpenSpec.ofChange frameTurnedWrong)

/-- 'gimballaw11.FrameUnlike': WHATEVER THE INPUT: true; the input reads as it did. -/
def frameUnlikeSpec : ChangeSpec := { name := "frameUnlike", fn := fun _ => fun
  | [d1, d2] => { results := [.lit (.bool true)], args := [d1, d2] }
  | _ => none }
def frameUnlikeRow : OpenClaim := { program := "ytdecoenollejiaa", sum := "65d1a951d9d925287532ebbad8b89a4e6a1127e8968e0f1b339f5c1cbb3632a7", func := "gimbal/gimballaw11.FrameUnlike", spec := "frameUnlike", unfollowed := true, recurses := true, apart := false }
def FrameUnlikeSaid : Prop := frameUnlikeRow.holds Try.pinned (OpenSpec.ofChange frameUnlikeSpec)

/-- ITS FALSE NEIGHBOUR: 'it returns false'. Refute it at one input. -/
def frameUnlikeWrong : ChangeSpec := { name := "frameUnlike", fn := fun _ => fun
  | [d1, d2] => { results := [.lit (.bool false)], args := [d1, d2] }
  | _ => none }
def FrameUnlikeWrongFalsely : Prop := frameUnlikeRow.holds Try.pinned (OpenSpec.ofChange frameUnlikeWrong)

/- THE SECOND FORM. 'bulk': how many values and letters a reading holds, each counted each time it is reached (what is shared counts as often as it is met; a slice's spare places count too). A statement '..UptoSaid' is the law's where the arguments, and the package variables that the reading takes, are together of bulk at most 1048576: NARROWER than '..Said'. Prove '..Said' where nothing that the law and all that it calls make is longer than what came in: it says more and counts as full. Else prove '..UptoSaid'. A law counts once. -/
mutual
def uptoBulk {H : Type} : DataW H → Nat
  | .lit (.string bytes) => bytes.length + 1
  | .lit _ => 1
  | .nil => 1
  | .ptr d => uptoBulk d + 1
  | .slice elems spare => uptoBulkAll elems + uptoBulkAll spare + 1
  | .agg parts => uptoBulkAll parts + 1
  | .iface _ d => uptoBulk d + 1
  | .map entries => uptoBulkEntries entries + 1
  | .held _ => 1
def uptoBulkAll {H : Type} : List (DataW H) → Nat
  | [] => 0
  | d :: r => uptoBulk d + uptoBulkAll r
def uptoBulkEntries {H : Type} : List (Lit × DataW H) → Nat
  | [] => 0
  | x :: r => uptoBulkEntry x + uptoBulkEntries r
def uptoBulkEntry {H : Type} : Lit × DataW H → Nat
  | (.string bytes, d) => bytes.length + uptoBulk d + 1
  | (_, d) => uptoBulk d + 1
 end
def uptoSmall : (H : Type) → List (DataW H) → Bool := fun _ ds => decide (uptoBulkAll ds ≤ 1048576)
def OpenSpec.upto (s : _root_.Go.ChangeSpec) : _root_.Go.OpenSpec := { _root_.Go.OpenSpec.ofChange s with cond := some uptoSmall }

/-- 'gimballaw10.CrcSums', WHERE WHAT IT READS IS OF BULK AT MOST 1048576: true; the input reads as it did. -/
def crcSumsUptoRow : OpenClaim := { program := "ytdecoenollejiaa", sum := "65d1a951d9d925287532ebbad8b89a4e6a1127e8968e0f1b339f5c1cbb3632a7", func := "gimbal/gimballaw10.CrcSums", spec := "crcSums", apart := false, narrowed := true }
def CrcSumsUptoSaid : Prop := crcSumsUptoRow.holds Try.pinned (OpenSpec.upto crcSumsSpec)

/-- 'gimballaw10.CrcSeals', WHERE WHAT IT READS IS OF BULK AT MOST 1048576: true; the input reads as it did. -/
def crcSealsUptoRow : OpenClaim := { program := "ytdecoenollejiaa", sum := "65d1a951d9d925287532ebbad8b89a4e6a1127e8968e0f1b339f5c1cbb3632a7", func := "gimbal/gimballaw10.CrcSeals", spec := "crcSeals", apart := false, narrowed := true }
def CrcSealsUptoSaid : Prop := crcSealsUptoRow.holds Try.pinned (OpenSpec.upto crcSealsSpec)

/-- 'gimballaw10.CrcGoesOn', WHERE WHAT IT READS IS OF BULK AT MOST 1048576: true; the input reads as it did. -/
def crcGoesOnUptoRow : OpenClaim := { program := "ytdecoenollejiaa", sum := "65d1a951d9d925287532ebbad8b89a4e6a1127e8968e0f1b339f5c1cbb3632a7", func := "gimbal/gimballaw10.CrcGoesOn", spec := "crcGoesOn", apart := false, narrowed := true }
def CrcGoesOnUptoSaid : Prop := crcGoesOnUptoRow.holds Try.pinned (OpenSpec.upto crcGoesOnSpec)

/-- 'gimballaw10.CrcTells', WHERE WHAT IT READS IS OF BULK AT MOST 1048576: true; the input reads as it did. -/
def crcTellsUptoRow : OpenClaim := { program := "ytdecoenollejiaa", sum := "65d1a951d9d925287532ebbad8b89a4e6a1127e8968e0f1b339f5c1cbb3632a7", func := "gimbal/gimballaw10.CrcTells", spec := "crcTells", apart := false, narrowed := true }
def CrcTellsUptoSaid : Prop := crcTellsUptoRow.holds Try.pinned (OpenSpec.upto crcTellsSpec)

/-- 'gimballaw10.CrcLinear', WHERE WHAT IT READS IS OF BULK AT MOST 1048576: true; the input reads as it did. -/
def crcLinearUptoRow : OpenClaim := { program := "ytdecoenollejiaa", sum := "65d1a951d9d925287532ebbad8b89a4e6a1127e8968e0f1b339f5c1cbb3632a7", func := "gimbal/gimballaw10.CrcLinear", spec := "crcLinear", apart := false, narrowed := true }
def CrcLinearUptoSaid : Prop := crcLinearUptoRow.holds Try.pinned (OpenSpec.upto crcLinearSpec)

/-- 'gimballaw10.CrcUnlike', WHERE WHAT IT READS IS OF BULK AT MOST 1048576: true; the input reads as it did. -/
def crcUnlikeUptoRow : OpenClaim := { program := "ytdecoenollejiaa", sum := "65d1a951d9d925287532ebbad8b89a4e6a1127e8968e0f1b339f5c1cbb3632a7", func := "gimbal/gimballaw10.CrcUnlike", spec := "crcUnlike", apart := false, narrowed := true }
def CrcUnlikeUptoSaid : Prop := crcUnlikeUptoRow.holds Try.pinned (OpenSpec.upto crcUnlikeSpec)

/-- 'gimballaw11.FrameWraps', WHERE WHAT IT READS IS OF BULK AT MOST 1048576: true; the input reads as it did. -/
def frameWrapsUptoRow : OpenClaim := { program := "ytdecoenollejiaa", sum := "65d1a951d9d925287532ebbad8b89a4e6a1127e8968e0f1b339f5c1cbb3632a7", func := "gimbal/gimballaw11.FrameWraps", spec := "frameWraps", unfollowed := true, recurses := true, apart := false, narrowed := true }
def FrameWrapsUptoSaid : Prop := frameWrapsUptoRow.holds Try.pinned (OpenSpec.upto frameWrapsSpec)

/-- 'gimballaw11.FrameReads', WHERE WHAT IT READS IS OF BULK AT MOST 1048576: true; the input reads as it did. -/
def frameReadsUptoRow : OpenClaim := { program := "ytdecoenollejiaa", sum := "65d1a951d9d925287532ebbad8b89a4e6a1127e8968e0f1b339f5c1cbb3632a7", func := "gimbal/gimballaw11.FrameReads", spec := "frameReads", unfollowed := true, recurses := true, apart := false, narrowed := true }
def FrameReadsUptoSaid : Prop := frameReadsUptoRow.holds Try.pinned (OpenSpec.upto frameReadsSpec)

/-- 'gimballaw11.FrameChunks', WHERE WHAT IT READS IS OF BULK AT MOST 1048576: true; the input reads as it did. -/
def frameChunksUptoRow : OpenClaim := { program := "ytdecoenollejiaa", sum := "65d1a951d9d925287532ebbad8b89a4e6a1127e8968e0f1b339f5c1cbb3632a7", func := "gimbal/gimballaw11.FrameChunks", spec := "frameChunks", unfollowed := true, recurses := true, apart := false, narrowed := true }
def FrameChunksUptoSaid : Prop := frameChunksUptoRow.holds Try.pinned (OpenSpec.upto frameChunksSpec)

/-- 'gimballaw11.FrameBack', WHERE WHAT IT READS IS OF BULK AT MOST 1048576: true; the input reads as it did. -/
def frameBackUptoRow : OpenClaim := { program := "ytdecoenollejiaa", sum := "65d1a951d9d925287532ebbad8b89a4e6a1127e8968e0f1b339f5c1cbb3632a7", func := "gimbal/gimballaw11.FrameBack", spec := "frameBack", unfollowed := true, recurses := true, apart := false, narrowed := true }
def FrameBackUptoSaid : Prop := frameBackUptoRow.holds Try.pinned (OpenSpec.upto frameBackSpec)

/-- 'gimballaw11.FrameTurned', WHERE WHAT IT READS IS OF BULK AT MOST 1048576: true; the input reads as it did. -/
def frameTurnedUptoRow : OpenClaim := { program := "ytdecoenollejiaa", sum := "65d1a951d9d925287532ebbad8b89a4e6a1127e8968e0f1b339f5c1cbb3632a7", func := "gimbal/gimballaw11.FrameTurned", spec := "frameTurned", unfollowed := true, recurses := true, apart := false, narrowed := true }
def FrameTurnedUptoSaid : Prop := frameTurnedUptoRow.holds Try.pinned (OpenSpec.upto frameTurnedSpec)

/-- 'gimballaw11.FrameUnlike', WHERE WHAT IT READS IS OF BULK AT MOST 1048576: true; the input reads as it did. -/
def frameUnlikeUptoRow : OpenClaim := { program := "ytdecoenollejiaa", sum := "65d1a951d9d925287532ebbad8b89a4e6a1127e8968e0f1b339f5c1cbb3632a7", func := "gimbal/gimballaw11.FrameUnlike", spec := "frameUnlike", unfollowed := true, recurses := true, apart := false, narrowed := true }
def FrameUnlikeUptoSaid : Prop := frameUnlikeUptoRow.holds Try.pinned (OpenSpec.upto frameUnlikeSpec)

end Rows
end Go.Proofs.Ytdecoenollejiaa
