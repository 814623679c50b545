/-
  No cell of these rows narrows 'for every input' (looked for: loops, veiled, ifaces, maps, wideKeys, modest, calm, conditions, laid).
  DERIVED. THE GIVEN ROWS OF THIS SEAT. 13 by the template 'for every input the law returns true; each argument reads behind the call as it read before'; 0 by the template 'total and deterministic' (their statements: YtehjfjdopeadfaaTotals.lean).
  GIVEN WITH THE SEED: the statements are not yours to turn. If you find one false, say at which input.
  Laid BY PROGRAM, IN A SANDBOX (cutbox-rows.mjs): the forced cells as the released guide's own fill.sh prints them over the translation 685f095ce3be635f… (all of the seat's roots in one cut). By AI agents, Wed Nov 11 2026. No macro, syntax, notation, axiom, sorry.
-/
import Derived.Test.YtehjfjdopeadfaaChecked
import GoSem.Claim
import GoSem.ClaimJoined
import GoSem.ClaimMapViews
import Derived.JoinedTies
import Derived.KernelRfl
namespace Go.Proofs.Ytehjfjdopeadfaa
/- THE CELL 'sum', in the pinned program and in every row, IS THE sha256 OF THE DUMP (.gsa) THAT YtehjfjdopeadfaaProg.lean LOADS. Nothing in Lean hashes anything: it is a label: what it is worth is what the hold of that sum in a sandbox is worth. -/
noncomputable def Try.pinned : Pinned := { name := "ytehjfjdopeadfaa", sum := "685f095ce3be635fd69bddc8d3b9fe973c4251b1a4bfbea7d7b7861c36be6834", checked := Try.checked }
namespace Rows
def none {H : Type} : Left H := { results := [], args := [] }

/-- 'gimballaw05.VecHolds': WHATEVER THE INPUT: true; the input reads as it did. -/
def vecHoldsSpec : ChangeSpec := { name := "vecHolds", fn := fun _ => fun
  | [d1, d2, d3, d4] => { results := [.lit (.bool true)], args := [d1, d2, d3, d4] }
  | _ => none }
def vecHoldsRow : OpenClaim := { program := "ytehjfjdopeadfaa", sum := "685f095ce3be635fd69bddc8d3b9fe973c4251b1a4bfbea7d7b7861c36be6834", func := "gimbal/gimballaw05.VecHolds", spec := "vecHolds", unfollowed := true, recurses := true, apart := false }
def VecHoldsSaid : Prop := vecHoldsRow.holds Try.pinned (OpenSpec.ofChange vecHoldsSpec)

/-- ITS FALSE NEIGHBOUR: 'it returns false'. Refute it at one input. -/
def vecHoldsWrong : ChangeSpec := { name := "vecHolds", fn := fun _ => fun
  | [d1, d2, d3, d4] => { results := [.lit (.bool false)], args := [d1, d2, d3, d4] }
  | _ => none }
def VecHoldsWrongFalsely : Prop := vecHoldsRow.holds Try.pinned (OpenSpec.ofChange vecHoldsWrong)

/-- 'gimballaw05.VecPlays': WHATEVER THE INPUT: true; the input reads as it did. -/
def vecPlaysSpec : ChangeSpec := { name := "vecPlays", fn := fun _ => fun
  | [d1, d2, d3] => { results := [.lit (.bool true)], args := [d1, d2, d3] }
  | _ => none }
def vecPlaysRow : OpenClaim := { program := "ytehjfjdopeadfaa", sum := "685f095ce3be635fd69bddc8d3b9fe973c4251b1a4bfbea7d7b7861c36be6834", func := "gimbal/gimballaw05.VecPlays", spec := "vecPlays", unfollowed := true, recurses := true, apart := false }
def VecPlaysSaid : Prop := vecPlaysRow.holds Try.pinned (OpenSpec.ofChange vecPlaysSpec)

/-- ITS FALSE NEIGHBOUR: 'it returns false'. Refute it at one input. -/
def vecPlaysWrong : ChangeSpec := { name := "vecPlays", fn := fun _ => fun
  | [d1, d2, d3] => { results := [.lit (.bool false)], args := [d1, d2, d3] }
  | _ => none }
def VecPlaysWrongFalsely : Prop := vecPlaysRow.holds Try.pinned (OpenSpec.ofChange vecPlaysWrong)

/-- 'gimballaw05.VecTells': WHATEVER THE INPUT: true; the input reads as it did. -/
def vecTellsSpec : ChangeSpec := { name := "vecTells", fn := fun _ => fun
  | [d1, d2, d3, d4, d5] => { results := [.lit (.bool true)], args := [d1, d2, d3, d4, d5] }
  | _ => none }
def vecTellsRow : OpenClaim := { program := "ytehjfjdopeadfaa", sum := "685f095ce3be635fd69bddc8d3b9fe973c4251b1a4bfbea7d7b7861c36be6834", func := "gimbal/gimballaw05.VecTells", spec := "vecTells", unfollowed := true, recurses := true, apart := false }
def VecTellsSaid : Prop := vecTellsRow.holds Try.pinned (OpenSpec.ofChange vecTellsSpec)

/-- ITS FALSE NEIGHBOUR: 'it returns false'. Refute it at one input. -/
def vecTellsWrong : ChangeSpec := { name := "vecTells", fn := fun _ => fun
  | [d1, d2, d3, d4, d5] => { results := [.lit (.bool false)], args := [d1, d2, d3, d4, d5] }
  | _ => none }
def VecTellsWrongFalsely : Prop := vecTellsRow.holds Try.pinned (OpenSpec.ofChange vecTellsWrong)

/-- 'gimballaw05.VecNarrow': WHATEVER THE INPUT: true; the input reads as it did. -/
def vecNarrowSpec : ChangeSpec := { name := "vecNarrow", fn := fun _ => fun
  | [d1, d2, d3, d4] => { results := [.lit (.bool true)], args := [d1, d2, d3, d4] }
  | _ => none }
def vecNarrowRow : OpenClaim := { program := "ytehjfjdopeadfaa", sum := "685f095ce3be635fd69bddc8d3b9fe973c4251b1a4bfbea7d7b7861c36be6834", func := "gimbal/gimballaw05.VecNarrow", spec := "vecNarrow", unfollowed := true, recurses := true, apart := false }
def VecNarrowSaid : Prop := vecNarrowRow.holds Try.pinned (OpenSpec.ofChange vecNarrowSpec)

/-- ITS FALSE NEIGHBOUR: 'it returns false'. Refute it at one input. -/
def vecNarrowWrong : ChangeSpec := { name := "vecNarrow", fn := fun _ => fun
  | [d1, d2, d3, d4] => { results := [.lit (.bool false)], args := [d1, d2, d3, d4] }
  | _ => none }
def VecNarrowWrongFalsely : Prop := vecNarrowRow.holds Try.pinned (OpenSpec.ofChange vecNarrowWrong)

/-- 'gimballaw05.VecPlain': WHATEVER THE INPUT: true; the input reads as it did. -/
def vecPlainSpec : ChangeSpec := { name := "vecPlain", fn := fun _ => fun
  | [d1, d2] => { results := [.lit (.bool true)], args := [d1, d2] }
  | _ => none }
def vecPlainRow : OpenClaim := { program := "ytehjfjdopeadfaa", sum := "685f095ce3be635fd69bddc8d3b9fe973c4251b1a4bfbea7d7b7861c36be6834", func := "gimbal/gimballaw05.VecPlain", spec := "vecPlain", unfollowed := true, recurses := true, apart := false }
def VecPlainSaid : Prop := vecPlainRow.holds Try.pinned (OpenSpec.ofChange vecPlainSpec)

/-- ITS FALSE NEIGHBOUR: 'it returns false'. Refute it at one input. -/
def vecPlainWrong : ChangeSpec := { name := "vecPlain", fn := fun _ => fun
  | [d1, d2] => { results := [.lit (.bool false)], args := [d1, d2] }
  | _ => none }
def VecPlainWrongFalsely : Prop := vecPlainRow.holds Try.pinned (OpenSpec.ofChange vecPlainWrong)

/-- 'gimballaw05.VecTurns': WHATEVER THE INPUT: true; the input reads as it did. -/
def vecTurnsSpec : ChangeSpec := { name := "vecTurns", fn := fun _ => fun
  | [d1, d2] => { results := [.lit (.bool true)], args := [d1, d2] }
  | _ => none }
def vecTurnsRow : OpenClaim := { program := "ytehjfjdopeadfaa", sum := "685f095ce3be635fd69bddc8d3b9fe973c4251b1a4bfbea7d7b7861c36be6834", func := "gimbal/gimballaw05.VecTurns", spec := "vecTurns", unfollowed := true, recurses := true, apart := false }
def VecTurnsSaid : Prop := vecTurnsRow.holds Try.pinned (OpenSpec.ofChange vecTurnsSpec)

/-- ITS FALSE NEIGHBOUR: 'it returns false'. Refute it at one input. -/
def vecTurnsWrong : ChangeSpec := { name := "vecTurns", fn := fun _ => fun
  | [d1, d2] => { results := [.lit (.bool false)], args := [d1, d2] }
  | _ => none }
def VecTurnsWrongFalsely : Prop := vecTurnsRow.holds Try.pinned (OpenSpec.ofChange vecTurnsWrong)

/-- 'gimballaw03.SpanTight': WHATEVER THE INPUT: true; the input reads as it did. -/
def spanTightSpec : ChangeSpec := { name := "spanTight", fn := fun _ => fun
  | [d1, d2] => { results := [.lit (.bool true)], args := [d1, d2] }
  | _ => none }
def spanTightRow : OpenClaim := { program := "ytehjfjdopeadfaa", sum := "685f095ce3be635fd69bddc8d3b9fe973c4251b1a4bfbea7d7b7861c36be6834", func := "gimbal/gimballaw03.SpanTight", spec := "spanTight", unfollowed := true, recurses := true, apart := false }
def SpanTightSaid : Prop := spanTightRow.holds Try.pinned (OpenSpec.ofChange spanTightSpec)

/-- ITS FALSE NEIGHBOUR: 'it returns false'. Refute it at one input. -/
def spanTightWrong : ChangeSpec := { name := "spanTight", fn := fun _ => fun
  | [d1, d2] => { results := [.lit (.bool false)], args := [d1, d2] }
  | _ => none }
def SpanTightWrongFalsely : Prop := spanTightRow.holds Try.pinned (OpenSpec.ofChange spanTightWrong)

/-- 'gimballaw03.SpanReckons': WHATEVER THE INPUT: true; the input reads as it did. -/
def spanReckonsSpec : ChangeSpec := { name := "spanReckons", fn := fun _ => fun
  | [d1, d2] => { results := [.lit (.bool true)], args := [d1, d2] }
  | _ => none }
def spanReckonsRow : OpenClaim := { program := "ytehjfjdopeadfaa", sum := "685f095ce3be635fd69bddc8d3b9fe973c4251b1a4bfbea7d7b7861c36be6834", func := "gimbal/gimballaw03.SpanReckons", spec := "spanReckons", unfollowed := true, recurses := true, apart := false }
def SpanReckonsSaid : Prop := spanReckonsRow.holds Try.pinned (OpenSpec.ofChange spanReckonsSpec)

/-- ITS FALSE NEIGHBOUR: 'it returns false'. Refute it at one input. -/
def spanReckonsWrong : ChangeSpec := { name := "spanReckons", fn := fun _ => fun
  | [d1, d2] => { results := [.lit (.bool false)], args := [d1, d2] }
  | _ => none }
def SpanReckonsWrongFalsely : Prop := spanReckonsRow.holds Try.pinned (OpenSpec.ofChange spanReckonsWrong)

/-- 'gimballaw03.SpanRoots': WHATEVER THE INPUT: true; the input reads as it did. -/
def spanRootsSpec : ChangeSpec := { name := "spanRoots", fn := fun _ => fun
  | [d] => { results := [.lit (.bool true)], args := [d] }
  | _ => none }
def spanRootsRow : OpenClaim := { program := "ytehjfjdopeadfaa", sum := "685f095ce3be635fd69bddc8d3b9fe973c4251b1a4bfbea7d7b7861c36be6834", func := "gimbal/gimballaw03.SpanRoots", spec := "spanRoots", unfollowed := true, recurses := true, apart := false }
def SpanRootsSaid : Prop := spanRootsRow.holds Try.pinned (OpenSpec.ofChange spanRootsSpec)

/-- ITS FALSE NEIGHBOUR: 'it returns false'. Refute it at one input. -/
def spanRootsWrong : ChangeSpec := { name := "spanRoots", fn := fun _ => fun
  | [d] => { results := [.lit (.bool false)], args := [d] }
  | _ => none }
def SpanRootsWrongFalsely : Prop := spanRootsRow.holds Try.pinned (OpenSpec.ofChange spanRootsWrong)

/-- 'gimballaw03.SpanHolds': WHATEVER THE INPUT: true; the input reads as it did. -/
def spanHoldsSpec : ChangeSpec := { name := "spanHolds", fn := fun _ => fun
  | [d1, d2, d3, d4] => { results := [.lit (.bool true)], args := [d1, d2, d3, d4] }
  | _ => none }
def spanHoldsRow : OpenClaim := { program := "ytehjfjdopeadfaa", sum := "685f095ce3be635fd69bddc8d3b9fe973c4251b1a4bfbea7d7b7861c36be6834", func := "gimbal/gimballaw03.SpanHolds", spec := "spanHolds", unfollowed := true, recurses := true, apart := false }
def SpanHoldsSaid : Prop := spanHoldsRow.holds Try.pinned (OpenSpec.ofChange spanHoldsSpec)

/-- ITS FALSE NEIGHBOUR: 'it returns false'. Refute it at one input. -/
def spanHoldsWrong : ChangeSpec := { name := "spanHolds", fn := fun _ => fun
  | [d1, d2, d3, d4] => { results := [.lit (.bool false)], args := [d1, d2, d3, d4] }
  | _ => none }
def SpanHoldsWrongFalsely : Prop := spanHoldsRow.holds Try.pinned (OpenSpec.ofChange spanHoldsWrong)

/-- 'gimballaw03.SpanNarrow': WHATEVER THE INPUT: true; the input reads as it did. -/
def spanNarrowSpec : ChangeSpec := { name := "spanNarrow", fn := fun _ => fun
  | [d1, d2, d3, d4] => { results := [.lit (.bool true)], args := [d1, d2, d3, d4] }
  | _ => none }
def spanNarrowRow : OpenClaim := { program := "ytehjfjdopeadfaa", sum := "685f095ce3be635fd69bddc8d3b9fe973c4251b1a4bfbea7d7b7861c36be6834", func := "gimbal/gimballaw03.SpanNarrow", spec := "spanNarrow", unfollowed := true, recurses := true, apart := false }
def SpanNarrowSaid : Prop := spanNarrowRow.holds Try.pinned (OpenSpec.ofChange spanNarrowSpec)

/-- ITS FALSE NEIGHBOUR: 'it returns false'. Refute it at one input. -/
def spanNarrowWrong : ChangeSpec := { name := "spanNarrow", fn := fun _ => fun
  | [d1, d2, d3, d4] => { results := [.lit (.bool false)], args := [d1, d2, d3, d4] }
  | _ => none }
def SpanNarrowWrongFalsely : Prop := spanNarrowRow.holds Try.pinned (OpenSpec.ofChange spanNarrowWrong)

/-- 'gimballaw03.SpanMakes': WHATEVER THE INPUT: true; the input reads as it did. -/
def spanMakesSpec : ChangeSpec := { name := "spanMakes", fn := fun _ => fun
  | [d1, d2, d3] => { results := [.lit (.bool true)], args := [d1, d2, d3] }
  | _ => none }
def spanMakesRow : OpenClaim := { program := "ytehjfjdopeadfaa", sum := "685f095ce3be635fd69bddc8d3b9fe973c4251b1a4bfbea7d7b7861c36be6834", func := "gimbal/gimballaw03.SpanMakes", spec := "spanMakes", unfollowed := true, recurses := true, apart := false }
def SpanMakesSaid : Prop := spanMakesRow.holds Try.pinned (OpenSpec.ofChange spanMakesSpec)

/-- ITS FALSE NEIGHBOUR: 'it returns false'. Refute it at one input. -/
def spanMakesWrong : ChangeSpec := { name := "spanMakes", fn := fun _ => fun
  | [d1, d2, d3] => { results := [.lit (.bool false)], args := [d1, d2, d3] }
  | _ => none }
def SpanMakesWrongFalsely : Prop := spanMakesRow.holds Try.pinned (OpenSpec.ofChange spanMakesWrong)

/-- 'gimballaw03.SpanMeets': WHATEVER THE INPUT: true; the input reads as it did. -/
def spanMeetsSpec : ChangeSpec := { name := "spanMeets", fn := fun _ => fun
  | [d1, d2, d3] => { results := [.lit (.bool true)], args := [d1, d2, d3] }
  | _ => none }
def spanMeetsRow : OpenClaim := { program := "ytehjfjdopeadfaa", sum := "685f095ce3be635fd69bddc8d3b9fe973c4251b1a4bfbea7d7b7861c36be6834", func := "gimbal/gimballaw03.SpanMeets", spec := "spanMeets", unfollowed := true, recurses := true, apart := false }
def SpanMeetsSaid : Prop := spanMeetsRow.holds Try.pinned (OpenSpec.ofChange spanMeetsSpec)

/-- ITS FALSE NEIGHBOUR: 'it returns false'. Refute it at one input. -/
def spanMeetsWrong : ChangeSpec := { name := "spanMeets", fn := fun _ => fun
  | [d1, d2, d3] => { results := [.lit (.bool false)], args := [d1, d2, d3] }
  | _ => none }
def SpanMeetsWrongFalsely : Prop := spanMeetsRow.holds Try.pinned (OpenSpec.ofChange spanMeetsWrong)

/- THE SECOND FORM. 'bulk': how many values and letters a reading holds, each counted each time it is reached (what is shared counts as often as it is met; a slice's spare places count too). A statement '..UptoSaid' is the law's where the arguments, and the package variables that the reading takes, are together of bulk at most 1048576: NARROWER than '..Said'. Prove '..Said' where nothing that the law and all that it calls make is longer than what came in: it says more and counts as full. Else prove '..UptoSaid'. A law counts once. -/
mutual
def uptoBulk {H : Type} : DataW H → Nat
  | .lit (.string bytes) => bytes.length + 1
  | .lit _ => 1
  | .nil => 1
  | .ptr d => uptoBulk d + 1
  | .slice elems spare => uptoBulkAll elems + uptoBulkAll spare + 1
  | .agg parts => uptoBulkAll parts + 1
  | .iface _ d => uptoBulk d + 1
  | .map entries => uptoBulkEntries entries + 1
  | .held _ => 1
def uptoBulkAll {H : Type} : List (DataW H) → Nat
  | [] => 0
  | d :: r => uptoBulk d + uptoBulkAll r
def uptoBulkEntries {H : Type} : List (Lit × DataW H) → Nat
  | [] => 0
  | x :: r => uptoBulkEntry x + uptoBulkEntries r
def uptoBulkEntry {H : Type} : Lit × DataW H → Nat
  | (.string bytes, d) => bytes.length + uptoBulk d + 1
  | (_, d) => uptoBulk d + 1
 end
def uptoSmall : (H : Type) → List (DataW H) → Bool := fun _ ds => decide (uptoBulkAll ds ≤ 1048576)
def OpenSpec.upto (s : _root_.Go.ChangeSpec) : _root_.Go.OpenSpec := { _root_.Go.OpenSpec.ofChange s with cond := some uptoSmall }

/-- 'gimballaw05.VecHolds', WHERE WHAT IT READS IS OF BULK AT MOST 1048576: true; the input reads as it did. -/
def vecHoldsUptoRow : OpenClaim := { program := "ytehjfjdopeadfaa", sum := "685f095ce3be635fd69bddc8d3b9fe973c4251b1a4bfbea7d7b7861c36be6834", func := "gimbal/gimballaw05.VecHolds", spec := "vecHolds", unfollowed := true, recurses := true, apart := false, narrowed := true }
def VecHoldsUptoSaid : Prop := vecHoldsUptoRow.holds Try.pinned (OpenSpec.upto vecHoldsSpec)

/-- 'gimballaw05.VecPlays', WHERE WHAT IT READS IS OF BULK AT MOST 1048576: true; the input reads as it did. -/
def vecPlaysUptoRow : OpenClaim := { program := "ytehjfjdopeadfaa", sum := "685f095ce3be635fd69bddc8d3b9fe973c4251b1a4bfbea7d7b7861c36be6834", func := "gimbal/gimballaw05.VecPlays", spec := "vecPlays", unfollowed := true, recurses := true, apart := false, narrowed := true }
def VecPlaysUptoSaid : Prop := vecPlaysUptoRow.holds Try.pinned (OpenSpec.upto vecPlaysSpec)

/-- 'gimballaw05.VecTells', WHERE WHAT IT READS IS OF BULK AT MOST 1048576: true; the input reads as it did. -/
def vecTellsUptoRow : OpenClaim := { program := "ytehjfjdopeadfaa", sum := "685f095ce3be635fd69bddc8d3b9fe973c4251b1a4bfbea7d7b7861c36be6834", func := "gimbal/gimballaw05.VecTells", spec := "vecTells", unfollowed := true, recurses := true, apart := false, narrowed := true }
def VecTellsUptoSaid : Prop := vecTellsUptoRow.holds Try.pinned (OpenSpec.upto vecTellsSpec)

/-- 'gimballaw05.VecNarrow', WHERE WHAT IT READS IS OF BULK AT MOST 1048576: true; the input reads as it did. -/
def vecNarrowUptoRow : OpenClaim := { program := "ytehjfjdopeadfaa", sum := "685f095ce3be635fd69bddc8d3b9fe973c4251b1a4bfbea7d7b7861c36be6834", func := "gimbal/gimballaw05.VecNarrow", spec := "vecNarrow", unfollowed := true, recurses := true, apart := false, narrowed := true }
def VecNarrowUptoSaid : Prop := vecNarrowUptoRow.holds Try.pinned (OpenSpec.upto vecNarrowSpec)

/-- 'gimballaw05.VecPlain', WHERE WHAT IT READS IS OF BULK AT MOST 1048576: true; the input reads as it did. -/
def vecPlainUptoRow : OpenClaim := { program := "ytehjfjdopeadfaa", sum := "685f095ce3be635fd69bddc8d3b9fe973c4251b1a4bfbea7d7b7861c36be6834", func := "gimbal/gimballaw05.VecPlain", spec := "vecPlain", unfollowed := true, recurses := true, apart := false, narrowed := true }
def VecPlainUptoSaid : Prop := vecPlainUptoRow.holds Try.pinned (OpenSpec.upto vecPlainSpec)

/-- 'gimballaw05.VecTurns', WHERE WHAT IT READS IS OF BULK AT MOST 1048576: true; the input reads as it did. -/
def vecTurnsUptoRow : OpenClaim := { program := "ytehjfjdopeadfaa", sum := "685f095ce3be635fd69bddc8d3b9fe973c4251b1a4bfbea7d7b7861c36be6834", func := "gimbal/gimballaw05.VecTurns", spec := "vecTurns", unfollowed := true, recurses := true, apart := false, narrowed := true }
def VecTurnsUptoSaid : Prop := vecTurnsUptoRow.holds Try.pinned (OpenSpec.upto vecTurnsSpec)

/-- 'gimballaw03.SpanTight', WHERE WHAT IT READS IS OF BULK AT MOST 1048576: true; the input reads as it did. -/
def spanTightUptoRow : OpenClaim := { program := "ytehjfjdopeadfaa", sum := "685f095ce3be635fd69bddc8d3b9fe973c4251b1a4bfbea7d7b7861c36be6834", func := "gimbal/gimballaw03.SpanTight", spec := "spanTight", unfollowed := true, recurses := true, apart := false, narrowed := true }
def SpanTightUptoSaid : Prop := spanTightUptoRow.holds Try.pinned (OpenSpec.upto spanTightSpec)

/-- 'gimballaw03.SpanReckons', WHERE WHAT IT READS IS OF BULK AT MOST 1048576: true; the input reads as it did. -/
def spanReckonsUptoRow : OpenClaim := { program := "ytehjfjdopeadfaa", sum := "685f095ce3be635fd69bddc8d3b9fe973c4251b1a4bfbea7d7b7861c36be6834", func := "gimbal/gimballaw03.SpanReckons", spec := "spanReckons", unfollowed := true, recurses := true, apart := false, narrowed := true }
def SpanReckonsUptoSaid : Prop := spanReckonsUptoRow.holds Try.pinned (OpenSpec.upto spanReckonsSpec)

/-- 'gimballaw03.SpanRoots', WHERE WHAT IT READS IS OF BULK AT MOST 1048576: true; the input reads as it did. -/
def spanRootsUptoRow : OpenClaim := { program := "ytehjfjdopeadfaa", sum := "685f095ce3be635fd69bddc8d3b9fe973c4251b1a4bfbea7d7b7861c36be6834", func := "gimbal/gimballaw03.SpanRoots", spec := "spanRoots", unfollowed := true, recurses := true, apart := false, narrowed := true }
def SpanRootsUptoSaid : Prop := spanRootsUptoRow.holds Try.pinned (OpenSpec.upto spanRootsSpec)

/-- 'gimballaw03.SpanHolds', WHERE WHAT IT READS IS OF BULK AT MOST 1048576: true; the input reads as it did. -/
def spanHoldsUptoRow : OpenClaim := { program := "ytehjfjdopeadfaa", sum := "685f095ce3be635fd69bddc8d3b9fe973c4251b1a4bfbea7d7b7861c36be6834", func := "gimbal/gimballaw03.SpanHolds", spec := "spanHolds", unfollowed := true, recurses := true, apart := false, narrowed := true }
def SpanHoldsUptoSaid : Prop := spanHoldsUptoRow.holds Try.pinned (OpenSpec.upto spanHoldsSpec)

/-- 'gimballaw03.SpanNarrow', WHERE WHAT IT READS IS OF BULK AT MOST 1048576: true; the input reads as it did. -/
def spanNarrowUptoRow : OpenClaim := { program := "ytehjfjdopeadfaa", sum := "685f095ce3be635fd69bddc8d3b9fe973c4251b1a4bfbea7d7b7861c36be6834", func := "gimbal/gimballaw03.SpanNarrow", spec := "spanNarrow", unfollowed := true, recurses := true, apart := false, narrowed := true }
def SpanNarrowUptoSaid : Prop := spanNarrowUptoRow.holds Try.pinned (OpenSpec.upto spanNarrowSpec)

/-- 'gimballaw03.SpanMakes', WHERE WHAT IT READS IS OF BULK AT MOST 1048576: true; the input reads as it did. -/
def spanMakesUptoRow : OpenClaim := { program := "ytehjfjdopeadfaa", sum := "685f095ce3be635fd69bddc8d3b9fe973c4251b1a4bfbea7d7b7861c36be6834", func := "gimbal/gimballaw03.SpanMakes", spec := "spanMakes", unfollowed := true, recurses := true, apart := false, narrowed := true }
def SpanMakesUptoSaid : Prop := spanMakesUptoRow.holds Try.pinned (OpenSpec.upto spanMakesSpec)

/-- 'gimballaw03.SpanMeets', WHERE WHAT IT READS IS OF BULK AT MOST 1048576: true; the input reads as it did. -/
def spanMeetsUptoRow : OpenClaim := { program := "ytehjfjdopeadfaa", sum := "685f095ce3be635fd69bddc8d3b9fe973c4251b1a4bfbea7d7b7861c36be6834", func := "gimbal/gimballaw03.SpanMeets", spec := "spanMeets", unfollowed := true, recurses := true, apart := false, narrowed := true }
def SpanMeetsUptoSaid : Prop := spanMeetsUptoRow.holds Try.pinned (OpenSpec.upto spanMeetsSpec)

end Rows
end Go.Proofs.Ytehjfjdopeadfaa
