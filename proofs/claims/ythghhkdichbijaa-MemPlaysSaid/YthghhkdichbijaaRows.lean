/-
  No cell of these rows narrows 'for every input' (looked for: loops, veiled, ifaces, maps, wideKeys, modest, calm, conditions, laid).
  DERIVED. THE GIVEN ROWS OF THIS SEAT. 8 by the template 'for every input the law returns true; each argument reads behind the call as it read before'; 0 by the template 'total and deterministic' (their statements: YthghhkdichbijaaTotals.lean).
  GIVEN WITH THE SEED: the statements are not yours to turn. If you find one false, say at which input.
  Laid BY PROGRAM, IN A SANDBOX (cutbox-rows.mjs): the forced cells as the released guide's own fill.sh prints them over the translation f596046c96f2f8cc… (all of the seat's roots in one cut). By AI agents, Wed Nov 11 2026. No macro, syntax, notation, axiom, sorry.
-/
import Derived.Test.YthghhkdichbijaaChecked
import GoSem.Claim
import GoSem.ClaimJoined
import GoSem.ClaimMapViews
import Derived.JoinedTies
import Derived.KernelRfl
namespace Go.Proofs.Ythghhkdichbijaa
/- THE CELL 'sum', in the pinned program and in every row, IS THE sha256 OF THE DUMP (.gsa) THAT YthghhkdichbijaaProg.lean LOADS. Nothing in Lean hashes anything: it is a label: what it is worth is what the hold of that sum in a sandbox is worth. -/
noncomputable def Try.pinned : Pinned := { name := "ythghhkdichbijaa", sum := "f596046c96f2f8cc123ee482f32c55a670d90b02e98e120fc47d21cea9653be7", checked := Try.checked }
namespace Rows
def none {H : Type} : Left H := { results := [], args := [] }

/-- 'rundlelaw12.MemEnds': WHATEVER THE INPUT: true; the input reads as it did. -/
def memEndsSpec : ChangeSpec := { name := "memEnds", fn := fun _ => fun
  | [d] => { results := [.lit (.bool true)], args := [d] }
  | _ => none }
def memEndsRow : OpenClaim := { program := "ythghhkdichbijaa", sum := "f596046c96f2f8cc123ee482f32c55a670d90b02e98e120fc47d21cea9653be7", func := "rundle/rundlelaw12.MemEnds", spec := "memEnds", apart := false }
def MemEndsSaid : Prop := memEndsRow.holds Try.pinned (OpenSpec.ofChange memEndsSpec)

/-- ITS FALSE NEIGHBOUR: 'it returns false'. Refute it at one input. -/
def memEndsWrong : ChangeSpec := { name := "memEnds", fn := fun _ => fun
  | [d] => { results := [.lit (.bool false)], args := [d] }
  | _ => none }
def MemEndsWrongFalsely : Prop := memEndsRow.holds Try.pinned (OpenSpec.ofChange memEndsWrong)

/-- 'rundlelaw12.MemWords': WHATEVER THE INPUT: true; the input reads as it did. -/
def memWordsSpec : ChangeSpec := { name := "memWords", fn := fun _ => fun
  | [d1, d2, d3] => { results := [.lit (.bool true)], args := [d1, d2, d3] }
  | _ => none }
def memWordsRow : OpenClaim := { program := "ythghhkdichbijaa", sum := "f596046c96f2f8cc123ee482f32c55a670d90b02e98e120fc47d21cea9653be7", func := "rundle/rundlelaw12.MemWords", spec := "memWords", apart := false }
def MemWordsSaid : Prop := memWordsRow.holds Try.pinned (OpenSpec.ofChange memWordsSpec)

/-- ITS FALSE NEIGHBOUR: 'it returns false'. Refute it at one input. -/
def memWordsWrong : ChangeSpec := { name := "memWords", fn := fun _ => fun
  | [d1, d2, d3] => { results := [.lit (.bool false)], args := [d1, d2, d3] }
  | _ => none }
def MemWordsWrongFalsely : Prop := memWordsRow.holds Try.pinned (OpenSpec.ofChange memWordsWrong)

/-- 'rundlelaw12.MemStale': WHATEVER THE INPUT: true; the input reads as it did. -/
def memStaleSpec : ChangeSpec := { name := "memStale", fn := fun _ => fun
  | [d1, d2] => { results := [.lit (.bool true)], args := [d1, d2] }
  | _ => none }
def memStaleRow : OpenClaim := { program := "ythghhkdichbijaa", sum := "f596046c96f2f8cc123ee482f32c55a670d90b02e98e120fc47d21cea9653be7", func := "rundle/rundlelaw12.MemStale", spec := "memStale", apart := false }
def MemStaleSaid : Prop := memStaleRow.holds Try.pinned (OpenSpec.ofChange memStaleSpec)

/-- ITS FALSE NEIGHBOUR: 'it returns false'. Refute it at one input. -/
def memStaleWrong : ChangeSpec := { name := "memStale", fn := fun _ => fun
  | [d1, d2] => { results := [.lit (.bool false)], args := [d1, d2] }
  | _ => none }
def MemStaleWrongFalsely : Prop := memStaleRow.holds Try.pinned (OpenSpec.ofChange memStaleWrong)

/-- 'rundlelaw12.MemReaps': WHATEVER THE INPUT: true; the input reads as it did. -/
def memReapsSpec : ChangeSpec := { name := "memReaps", fn := fun _ => fun
  | [d1, d2] => { results := [.lit (.bool true)], args := [d1, d2] }
  | _ => none }
def memReapsRow : OpenClaim := { program := "ythghhkdichbijaa", sum := "f596046c96f2f8cc123ee482f32c55a670d90b02e98e120fc47d21cea9653be7", func := "rundle/rundlelaw12.MemReaps", spec := "memReaps", apart := false }
def MemReapsSaid : Prop := memReapsRow.holds Try.pinned (OpenSpec.ofChange memReapsSpec)

/-- ITS FALSE NEIGHBOUR: 'it returns false'. Refute it at one input. -/
def memReapsWrong : ChangeSpec := { name := "memReaps", fn := fun _ => fun
  | [d1, d2] => { results := [.lit (.bool false)], args := [d1, d2] }
  | _ => none }
def MemReapsWrongFalsely : Prop := memReapsRow.holds Try.pinned (OpenSpec.ofChange memReapsWrong)

/-- 'rundlelaw12.MemPlays': WHATEVER THE INPUT: true; the input reads as it did. -/
def memPlaysSpec : ChangeSpec := { name := "memPlays", fn := fun _ => fun
  | [d1, d2] => { results := [.lit (.bool true)], args := [d1, d2] }
  | _ => none }
def memPlaysRow : OpenClaim := { program := "ythghhkdichbijaa", sum := "f596046c96f2f8cc123ee482f32c55a670d90b02e98e120fc47d21cea9653be7", func := "rundle/rundlelaw12.MemPlays", spec := "memPlays", apart := false }
def MemPlaysSaid : Prop := memPlaysRow.holds Try.pinned (OpenSpec.ofChange memPlaysSpec)

/-- ITS FALSE NEIGHBOUR: 'it returns false'. Refute it at one input. -/
def memPlaysWrong : ChangeSpec := { name := "memPlays", fn := fun _ => fun
  | [d1, d2] => { results := [.lit (.bool false)], args := [d1, d2] }
  | _ => none }
def MemPlaysWrongFalsely : Prop := memPlaysRow.holds Try.pinned (OpenSpec.ofChange memPlaysWrong)

/-- 'rundlelaw13.StepCounts': WHATEVER THE INPUT: true; the input reads as it did. -/
def stepCountsSpec : ChangeSpec := { name := "stepCounts", fn := fun _ => fun
  | [d1, d2] => { results := [.lit (.bool true)], args := [d1, d2] }
  | _ => none }
def stepCountsRow : OpenClaim := { program := "ythghhkdichbijaa", sum := "f596046c96f2f8cc123ee482f32c55a670d90b02e98e120fc47d21cea9653be7", func := "rundle/rundlelaw13.StepCounts", spec := "stepCounts", unfollowed := true, recurses := true, apart := false }
def StepCountsSaid : Prop := stepCountsRow.holds Try.pinned (OpenSpec.ofChange stepCountsSpec)

/-- ITS FALSE NEIGHBOUR: 'it returns false'. Refute it at one input. -/
def stepCountsWrong : ChangeSpec := { name := "stepCounts", fn := fun _ => fun
  | [d1, d2] => { results := [.lit (.bool false)], args := [d1, d2] }
  | _ => none }
def StepCountsWrongFalsely : Prop := stepCountsRow.holds Try.pinned (OpenSpec.ofChange stepCountsWrong)

/-- 'rundlelaw13.StepTurns': WHATEVER THE INPUT: true; the input reads as it did. -/
def stepTurnsSpec : ChangeSpec := { name := "stepTurns", fn := fun _ => fun
  | [d1, d2, d3, d4, d5] => { results := [.lit (.bool true)], args := [d1, d2, d3, d4, d5] }
  | _ => none }
def stepTurnsRow : OpenClaim := { program := "ythghhkdichbijaa", sum := "f596046c96f2f8cc123ee482f32c55a670d90b02e98e120fc47d21cea9653be7", func := "rundle/rundlelaw13.StepTurns", spec := "stepTurns", unfollowed := true, recurses := true, apart := false }
def StepTurnsSaid : Prop := stepTurnsRow.holds Try.pinned (OpenSpec.ofChange stepTurnsSpec)

/-- ITS FALSE NEIGHBOUR: 'it returns false'. Refute it at one input. -/
def stepTurnsWrong : ChangeSpec := { name := "stepTurns", fn := fun _ => fun
  | [d1, d2, d3, d4, d5] => { results := [.lit (.bool false)], args := [d1, d2, d3, d4, d5] }
  | _ => none }
def StepTurnsWrongFalsely : Prop := stepTurnsRow.holds Try.pinned (OpenSpec.ofChange stepTurnsWrong)

/-- 'rundlelaw13.StepAlone': WHATEVER THE INPUT: true; the input reads as it did. -/
def stepAloneSpec : ChangeSpec := { name := "stepAlone", fn := fun _ => fun
  | [d1, d2] => { results := [.lit (.bool true)], args := [d1, d2] }
  | _ => none }
def stepAloneRow : OpenClaim := { program := "ythghhkdichbijaa", sum := "f596046c96f2f8cc123ee482f32c55a670d90b02e98e120fc47d21cea9653be7", func := "rundle/rundlelaw13.StepAlone", spec := "stepAlone", unfollowed := true, recurses := true, apart := false }
def StepAloneSaid : Prop := stepAloneRow.holds Try.pinned (OpenSpec.ofChange stepAloneSpec)

/-- ITS FALSE NEIGHBOUR: 'it returns false'. Refute it at one input. -/
def stepAloneWrong : ChangeSpec := { name := "stepAlone", fn := fun _ => fun
  | [d1, d2] => { results := [.lit (.bool false)], args := [d1, d2] }
  | _ => none }
def StepAloneWrongFalsely : Prop := stepAloneRow.holds Try.pinned (OpenSpec.ofChange stepAloneWrong)

/- THE SECOND FORM. 'bulk': how many values and letters a reading holds, each counted each time it is reached (what is shared counts as often as it is met; a slice's spare places count too). A statement '..UptoSaid' is the law's where the arguments, and the package variables that the reading takes, are together of bulk at most 1048576: NARROWER than '..Said'. Prove '..Said' where nothing that the law and all that it calls make is longer than what came in: it says more and counts as full. Else prove '..UptoSaid'. A law counts once. -/
mutual
def uptoBulk {H : Type} : DataW H → Nat
  | .lit (.string bytes) => bytes.length + 1
  | .lit _ => 1
  | .nil => 1
  | .ptr d => uptoBulk d + 1
  | .slice elems spare => uptoBulkAll elems + uptoBulkAll spare + 1
  | .agg parts => uptoBulkAll parts + 1
  | .iface _ d => uptoBulk d + 1
  | .map entries => uptoBulkEntries entries + 1
  | .held _ => 1
def uptoBulkAll {H : Type} : List (DataW H) → Nat
  | [] => 0
  | d :: r => uptoBulk d + uptoBulkAll r
def uptoBulkEntries {H : Type} : List (Lit × DataW H) → Nat
  | [] => 0
  | x :: r => uptoBulkEntry x + uptoBulkEntries r
def uptoBulkEntry {H : Type} : Lit × DataW H → Nat
  | (.string bytes, d) => bytes.length + uptoBulk d + 1
  | (_, d) => uptoBulk d + 1
 end
def uptoSmall : (H : Type) → List (DataW H) → Bool := fun _ ds => decide (uptoBulkAll ds ≤ 1048576)
def OpenSpec.upto (s : _root_.Go.ChangeSpec) : _root_.Go.OpenSpec := { _root_.Go.OpenSpec.ofChange s with cond := some uptoSmall }

/-- 'rundlelaw12.MemEnds', WHERE WHAT IT READS IS OF BULK AT MOST 1048576: true; the input reads as it did. -/
def memEndsUptoRow : OpenClaim := { program := "ythghhkdichbijaa", sum := "f596046c96f2f8cc123ee482f32c55a670d90b02e98e120fc47d21cea9653be7", func := "rundle/rundlelaw12.MemEnds", spec := "memEnds", apart := false, narrowed := true }
def MemEndsUptoSaid : Prop := memEndsUptoRow.holds Try.pinned (OpenSpec.upto memEndsSpec)

/-- 'rundlelaw12.MemWords', WHERE WHAT IT READS IS OF BULK AT MOST 1048576: true; the input reads as it did. -/
def memWordsUptoRow : OpenClaim := { program := "ythghhkdichbijaa", sum := "f596046c96f2f8cc123ee482f32c55a670d90b02e98e120fc47d21cea9653be7", func := "rundle/rundlelaw12.MemWords", spec := "memWords", apart := false, narrowed := true }
def MemWordsUptoSaid : Prop := memWordsUptoRow.holds Try.pinned (OpenSpec.upto memWordsSpec)

/-- 'rundlelaw12.MemStale', WHERE WHAT IT READS IS OF BULK AT MOST 1048576: true; the input reads as it did. -/
def memStaleUptoRow : OpenClaim := { program := "ythghhkdichbijaa", sum := "f596046c96f2f8cc123ee482f32c55a670d90b02e98e120fc47d21cea9653be7", func := "rundle/rundlelaw12.MemStale", spec := "memStale", apart := false, narrowed := true }
def MemStaleUptoSaid : Prop := memStaleUptoRow.holds Try.pinned (OpenSpec.upto memStaleSpec)

/-- 'rundlelaw12.MemReaps', WHERE WHAT IT READS IS OF BULK AT MOST 1048576: true; the input reads as it did. -/
def memReapsUptoRow : OpenClaim := { program := "ythghhkdichbijaa", sum := "f596046c96f2f8cc123ee482f32c55a670d90b02e98e120fc47d21cea9653be7", func := "rundle/rundlelaw12.MemReaps", spec := "memReaps", apart := false, narrowed := true }
def MemReapsUptoSaid : Prop := memReapsUptoRow.holds Try.pinned (OpenSpec.upto memReapsSpec)

/-- 'rundlelaw12.MemPlays', WHERE WHAT IT READS IS OF BULK AT MOST 1048576: true; the input reads as it did. -/
def memPlaysUptoRow : OpenClaim := { program := "ythghhkdichbijaa", sum := "f596046c96f2f8cc123ee482f32c55a670d90b02e98e120fc47d21cea9653be7", func := "rundle/rundlelaw12.MemPlays", spec := "memPlays", apart := false, narrowed := true }
def MemPlaysUptoSaid : Prop := memPlaysUptoRow.holds Try.pinned (OpenSpec.upto memPlaysSpec)

/-- 'rundlelaw13.StepCounts', WHERE WHAT IT READS IS OF BULK AT MOST 1048576: true; the input reads as it did. -/
def stepCountsUptoRow : OpenClaim := { program := "ythghhkdichbijaa", sum := "f596046c96f2f8cc123ee482f32c55a670d90b02e98e120fc47d21cea9653be7", func := "rundle/rundlelaw13.StepCounts", spec := "stepCounts", unfollowed := true, recurses := true, apart := false, narrowed := true }
def StepCountsUptoSaid : Prop := stepCountsUptoRow.holds Try.pinned (OpenSpec.upto stepCountsSpec)

/-- 'rundlelaw13.StepTurns', WHERE WHAT IT READS IS OF BULK AT MOST 1048576: true; the input reads as it did. -/
def stepTurnsUptoRow : OpenClaim := { program := "ythghhkdichbijaa", sum := "f596046c96f2f8cc123ee482f32c55a670d90b02e98e120fc47d21cea9653be7", func := "rundle/rundlelaw13.StepTurns", spec := "stepTurns", unfollowed := true, recurses := true, apart := false, narrowed := true }
def StepTurnsUptoSaid : Prop := stepTurnsUptoRow.holds Try.pinned (OpenSpec.upto stepTurnsSpec)

/-- 'rundlelaw13.StepAlone', WHERE WHAT IT READS IS OF BULK AT MOST 1048576: true; the input reads as it did. -/
def stepAloneUptoRow : OpenClaim := { program := "ythghhkdichbijaa", sum := "f596046c96f2f8cc123ee482f32c55a670d90b02e98e120fc47d21cea9653be7", func := "rundle/rundlelaw13.StepAlone", spec := "stepAlone", unfollowed := true, recurses := true, apart := false, narrowed := true }
def StepAloneUptoSaid : Prop := stepAloneUptoRow.holds Try.pinned (OpenSpec.upto stepAloneSpec)

end Rows
end Go.Proofs.Ythghhkdichbijaa
