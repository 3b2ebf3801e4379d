/-
  No cell of these rows narrows 'for every input' (looked for: loops, veiled, ifaces, maps, wideKeys, modest, calm, conditions, laid).
  DERIVED. THE GIVEN ROWS OF THIS SEAT. 9 by the template 'for every input the law returns true; each argument reads behind the call as it read before'; 0 by the template 'total and deterministic' (their statements: YtoaacdjcjicemaaTotals.lean).
  GIVEN WITH THE SEED: the statements are not yours to turn. If you find one false, say at which input.
  Laid BY PROGRAM, IN A SANDBOX (cutbox-rows.mjs): the forced cells as the released guide's own fill.sh prints them over the translation 78e6c5d37c48501a… (all of the seat's roots in one cut). By AI agents, Wed Nov 11 2026. No macro, syntax, notation, axiom, sorry.
-/
import Derived.Test.YtoaacdjcjicemaaChecked
import GoSem.Claim
import GoSem.ClaimJoined
import GoSem.ClaimMapViews
import Derived.JoinedTies
import Derived.KernelRfl
namespace Go.Proofs.Ytoaacdjcjicemaa
/- THE CELL 'sum', in the pinned program and in every row, IS THE sha256 OF THE DUMP (.gsa) THAT YtoaacdjcjicemaaProg.lean LOADS. Nothing in Lean hashes anything: it is a label: what it is worth is what the hold of that sum in a sandbox is worth. -/
noncomputable def Try.pinned : Pinned := { name := "ytoaacdjcjicemaa", sum := "78e6c5d37c48501ada7de6eb443b44376ef0ac72b2964d089ba0819b629667d7", checked := Try.checked }
namespace Rows
def none {H : Type} : Left H := { results := [], args := [] }

/-- 'rundlelaw08.RevApplies': WHATEVER THE INPUT: true; the input reads as it did. -/
def revAppliesSpec : ChangeSpec := { name := "revApplies", fn := fun _ => fun
  | [d1, d2, d3, d4, d5, d6] => { results := [.lit (.bool true)], args := [d1, d2, d3, d4, d5, d6] }
  | _ => none }
def revAppliesRow : OpenClaim := { program := "ytoaacdjcjicemaa", sum := "78e6c5d37c48501ada7de6eb443b44376ef0ac72b2964d089ba0819b629667d7", func := "rundle/rundlelaw08.RevApplies", spec := "revApplies", apart := false }
def RevAppliesSaid : Prop := revAppliesRow.holds Try.pinned (OpenSpec.ofChange revAppliesSpec)

/-- ITS FALSE NEIGHBOUR: 'it returns false'. Refute it at one input. -/
def revAppliesWrong : ChangeSpec := { name := "revApplies", fn := fun _ => fun
  | [d1, d2, d3, d4, d5, d6] => { results := [.lit (.bool false)], args := [d1, d2, d3, d4, d5, d6] }
  | _ => none }
def RevAppliesWrongFalsely : Prop := revAppliesRow.holds Try.pinned (OpenSpec.ofChange revAppliesWrong)

/-- 'rundlelaw08.RevPlays': WHATEVER THE INPUT: true; the input reads as it did. -/
def revPlaysSpec : ChangeSpec := { name := "revPlays", fn := fun _ => fun
  | [d1, d2, d3, d4, d5, d6, d7] => { results := [.lit (.bool true)], args := [d1, d2, d3, d4, d5, d6, d7] }
  | _ => none }
def revPlaysRow : OpenClaim := { program := "ytoaacdjcjicemaa", sum := "78e6c5d37c48501ada7de6eb443b44376ef0ac72b2964d089ba0819b629667d7", func := "rundle/rundlelaw08.RevPlays", spec := "revPlays", apart := false }
def RevPlaysSaid : Prop := revPlaysRow.holds Try.pinned (OpenSpec.ofChange revPlaysSpec)

/-- ITS FALSE NEIGHBOUR: 'it returns false'. Refute it at one input. -/
def revPlaysWrong : ChangeSpec := { name := "revPlays", fn := fun _ => fun
  | [d1, d2, d3, d4, d5, d6, d7] => { results := [.lit (.bool false)], args := [d1, d2, d3, d4, d5, d6, d7] }
  | _ => none }
def RevPlaysWrongFalsely : Prop := revPlaysRow.holds Try.pinned (OpenSpec.ofChange revPlaysWrong)

/-- 'rundlelaw08.RevChanges': WHATEVER THE INPUT: true; the input reads as it did. -/
def revChangesSpec : ChangeSpec := { name := "revChanges", fn := fun _ => fun
  | [d1, d2, d3, d4] => { results := [.lit (.bool true)], args := [d1, d2, d3, d4] }
  | _ => none }
def revChangesRow : OpenClaim := { program := "ytoaacdjcjicemaa", sum := "78e6c5d37c48501ada7de6eb443b44376ef0ac72b2964d089ba0819b629667d7", func := "rundle/rundlelaw08.RevChanges", spec := "revChanges", apart := false }
def RevChangesSaid : Prop := revChangesRow.holds Try.pinned (OpenSpec.ofChange revChangesSpec)

/-- ITS FALSE NEIGHBOUR: 'it returns false'. Refute it at one input. -/
def revChangesWrong : ChangeSpec := { name := "revChanges", fn := fun _ => fun
  | [d1, d2, d3, d4] => { results := [.lit (.bool false)], args := [d1, d2, d3, d4] }
  | _ => none }
def RevChangesWrongFalsely : Prop := revChangesRow.holds Try.pinned (OpenSpec.ofChange revChangesWrong)

/-- 'rundlelaw18.PlanRelinks': WHATEVER THE INPUT: true; the input reads as it did. -/
def planRelinksSpec : ChangeSpec := { name := "planRelinks", fn := fun _ => fun
  | [d1, d2] => { results := [.lit (.bool true)], args := [d1, d2] }
  | _ => none }
def planRelinksRow : OpenClaim := { program := "ytoaacdjcjicemaa", sum := "78e6c5d37c48501ada7de6eb443b44376ef0ac72b2964d089ba0819b629667d7", func := "rundle/rundlelaw18.PlanRelinks", spec := "planRelinks", unfollowed := true, recurses := true, apart := false }
def PlanRelinksSaid : Prop := planRelinksRow.holds Try.pinned (OpenSpec.ofChange planRelinksSpec)

/-- ITS FALSE NEIGHBOUR: 'it returns false'. Refute it at one input. -/
def planRelinksWrong : ChangeSpec := { name := "planRelinks", fn := fun _ => fun
  | [d1, d2] => { results := [.lit (.bool false)], args := [d1, d2] }
  | _ => none }
def PlanRelinksWrongFalsely : Prop := planRelinksRow.holds Try.pinned (OpenSpec.ofChange planRelinksWrong)

/-- 'rundlelaw18.PlanLeads': WHATEVER THE INPUT: true; the input reads as it did. -/
def planLeadsSpec : ChangeSpec := { name := "planLeads", fn := fun _ => fun
  | [d1, d2, d3, d4, d5] => { results := [.lit (.bool true)], args := [d1, d2, d3, d4, d5] }
  | _ => none }
def planLeadsRow : OpenClaim := { program := "ytoaacdjcjicemaa", sum := "78e6c5d37c48501ada7de6eb443b44376ef0ac72b2964d089ba0819b629667d7", func := "rundle/rundlelaw18.PlanLeads", spec := "planLeads", unfollowed := true, recurses := true, apart := false }
def PlanLeadsSaid : Prop := planLeadsRow.holds Try.pinned (OpenSpec.ofChange planLeadsSpec)

/-- ITS FALSE NEIGHBOUR: 'it returns false'. Refute it at one input. -/
def planLeadsWrong : ChangeSpec := { name := "planLeads", fn := fun _ => fun
  | [d1, d2, d3, d4, d5] => { results := [.lit (.bool false)], args := [d1, d2, d3, d4, d5] }
  | _ => none }
def PlanLeadsWrongFalsely : Prop := planLeadsRow.holds Try.pinned (OpenSpec.ofChange planLeadsWrong)

/-- 'rundlelaw18.PlanInserts': WHATEVER THE INPUT: true; the input reads as it did. -/
def planInsertsSpec : ChangeSpec := { name := "planInserts", fn := fun _ => fun
  | [d1, d2, d3] => { results := [.lit (.bool true)], args := [d1, d2, d3] }
  | _ => none }
def planInsertsRow : OpenClaim := { program := "ytoaacdjcjicemaa", sum := "78e6c5d37c48501ada7de6eb443b44376ef0ac72b2964d089ba0819b629667d7", func := "rundle/rundlelaw18.PlanInserts", spec := "planInserts", unfollowed := true, recurses := true, apart := false }
def PlanInsertsSaid : Prop := planInsertsRow.holds Try.pinned (OpenSpec.ofChange planInsertsSpec)

/-- ITS FALSE NEIGHBOUR: 'it returns false'. Refute it at one input. -/
def planInsertsWrong : ChangeSpec := { name := "planInserts", fn := fun _ => fun
  | [d1, d2, d3] => { results := [.lit (.bool false)], args := [d1, d2, d3] }
  | _ => none }
def PlanInsertsWrongFalsely : Prop := planInsertsRow.holds Try.pinned (OpenSpec.ofChange planInsertsWrong)

/-- 'rundlelaw18.PlanEmpties': WHATEVER THE INPUT: true; the input reads as it did. -/
def planEmptiesSpec : ChangeSpec := { name := "planEmpties", fn := fun _ => fun
  | [d1, d2] => { results := [.lit (.bool true)], args := [d1, d2] }
  | _ => none }
def planEmptiesRow : OpenClaim := { program := "ytoaacdjcjicemaa", sum := "78e6c5d37c48501ada7de6eb443b44376ef0ac72b2964d089ba0819b629667d7", func := "rundle/rundlelaw18.PlanEmpties", spec := "planEmpties", unfollowed := true, recurses := true, apart := false }
def PlanEmptiesSaid : Prop := planEmptiesRow.holds Try.pinned (OpenSpec.ofChange planEmptiesSpec)

/-- ITS FALSE NEIGHBOUR: 'it returns false'. Refute it at one input. -/
def planEmptiesWrong : ChangeSpec := { name := "planEmpties", fn := fun _ => fun
  | [d1, d2] => { results := [.lit (.bool false)], args := [d1, d2] }
  | _ => none }
def PlanEmptiesWrongFalsely : Prop := planEmptiesRow.holds Try.pinned (OpenSpec.ofChange planEmptiesWrong)

/-- 'rundlelaw08.RevBack': WHATEVER THE INPUT: true; the input reads as it did. -/
def revBackSpec : ChangeSpec := { name := "revBack", fn := fun _ => fun
  | [d1, d2, d3, d4] => { results := [.lit (.bool true)], args := [d1, d2, d3, d4] }
  | _ => none }
def revBackRow : OpenClaim := { program := "ytoaacdjcjicemaa", sum := "78e6c5d37c48501ada7de6eb443b44376ef0ac72b2964d089ba0819b629667d7", func := "rundle/rundlelaw08.RevBack", spec := "revBack", unfollowed := true, recurses := true, apart := false }
def RevBackSaid : Prop := revBackRow.holds Try.pinned (OpenSpec.ofChange revBackSpec)

/-- ITS FALSE NEIGHBOUR: 'it returns false'. Refute it at one input. -/
def revBackWrong : ChangeSpec := { name := "revBack", fn := fun _ => fun
  | [d1, d2, d3, d4] => { results := [.lit (.bool false)], args := [d1, d2, d3, d4] }
  | _ => none }
def RevBackWrongFalsely : Prop := revBackRow.holds Try.pinned (OpenSpec.ofChange revBackWrong)

/-- 'rundlelaw18.PlanTakes': WHATEVER THE INPUT: true; the input reads as it did. -/
def planTakesSpec : ChangeSpec := { name := "planTakes", fn := fun _ => fun
  | [d1, d2] => { results := [.lit (.bool true)], args := [d1, d2] }
  | _ => none }
def planTakesRow : OpenClaim := { program := "ytoaacdjcjicemaa", sum := "78e6c5d37c48501ada7de6eb443b44376ef0ac72b2964d089ba0819b629667d7", func := "rundle/rundlelaw18.PlanTakes", spec := "planTakes", unfollowed := true, recurses := true, apart := false }
def PlanTakesSaid : Prop := planTakesRow.holds Try.pinned (OpenSpec.ofChange planTakesSpec)

/-- ITS FALSE NEIGHBOUR: 'it returns false'. Refute it at one input. -/
def planTakesWrong : ChangeSpec := { name := "planTakes", fn := fun _ => fun
  | [d1, d2] => { results := [.lit (.bool false)], args := [d1, d2] }
  | _ => none }
def PlanTakesWrongFalsely : Prop := planTakesRow.holds Try.pinned (OpenSpec.ofChange planTakesWrong)

/- THE SECOND FORM. 'bulk': how many values and letters a reading holds, each counted each time it is reached (what is shared counts as often as it is met; a slice's spare places count too). A statement '..UptoSaid' is the law's where the arguments, and the package variables that the reading takes, are together of bulk at most 1048576: NARROWER than '..Said'. Prove '..Said' where nothing that the law and all that it calls make is longer than what came in: it says more and counts as full. Else prove '..UptoSaid'. A law counts once. -/
mutual
def uptoBulk {H : Type} : DataW H → Nat
  | .lit (.string bytes) => bytes.length + 1
  | .lit _ => 1
  | .nil => 1
  | .ptr d => uptoBulk d + 1
  | .slice elems spare => uptoBulkAll elems + uptoBulkAll spare + 1
  | .agg parts => uptoBulkAll parts + 1
  | .iface _ d => uptoBulk d + 1
  | .map entries => uptoBulkEntries entries + 1
  | .held _ => 1
def uptoBulkAll {H : Type} : List (DataW H) → Nat
  | [] => 0
  | d :: r => uptoBulk d + uptoBulkAll r
def uptoBulkEntries {H : Type} : List (Lit × DataW H) → Nat
  | [] => 0
  | x :: r => uptoBulkEntry x + uptoBulkEntries r
def uptoBulkEntry {H : Type} : Lit × DataW H → Nat
  | (.string bytes, d) => bytes.length + uptoBulk d + 1
  | (_, d) => uptoBulk d + 1
 end
def uptoSmall : (H : Type) → List (DataW H) → Bool := fun _ ds => decide (uptoBulkAll ds ≤ 1048576)
def OpenSpec.upto (s : _root_.Go.ChangeSpec) : _root_.Go.OpenSpec := { _root_.Go.OpenSpec.ofChange s with cond := some uptoSmall }

/-- 'rundlelaw08.RevApplies', WHERE WHAT IT READS IS OF BULK AT MOST 1048576: true; the input reads as it did. -/
def revAppliesUptoRow : OpenClaim := { program := "ytoaacdjcjicemaa", sum := "78e6c5d37c48501ada7de6eb443b44376ef0ac72b2964d089ba0819b629667d7", func := "rundle/rundlelaw08.RevApplies", spec := "revApplies", apart := false, narrowed := true }
def RevAppliesUptoSaid : Prop := revAppliesUptoRow.holds Try.pinned (OpenSpec.upto revAppliesSpec)

/-- 'rundlelaw08.RevPlays', WHERE WHAT IT READS IS OF BULK AT MOST 1048576: true; the input reads as it did. -/
def revPlaysUptoRow : OpenClaim := { program := "ytoaacdjcjicemaa", sum := "78e6c5d37c48501ada7de6eb443b44376ef0ac72b2964d089ba0819b629667d7", func := "rundle/rundlelaw08.RevPlays", spec := "revPlays", apart := false, narrowed := true }
def RevPlaysUptoSaid : Prop := revPlaysUptoRow.holds Try.pinned (OpenSpec.upto revPlaysSpec)

/-- 'rundlelaw08.RevChanges', WHERE WHAT IT READS IS OF BULK AT MOST 1048576: true; the input reads as it did. -/
def revChangesUptoRow : OpenClaim := { program := "ytoaacdjcjicemaa", sum := "78e6c5d37c48501ada7de6eb443b44376ef0ac72b2964d089ba0819b629667d7", func := "rundle/rundlelaw08.RevChanges", spec := "revChanges", apart := false, narrowed := true }
def RevChangesUptoSaid : Prop := revChangesUptoRow.holds Try.pinned (OpenSpec.upto revChangesSpec)

/-- 'rundlelaw18.PlanRelinks', WHERE WHAT IT READS IS OF BULK AT MOST 1048576: true; the input reads as it did. -/
def planRelinksUptoRow : OpenClaim := { program := "ytoaacdjcjicemaa", sum := "78e6c5d37c48501ada7de6eb443b44376ef0ac72b2964d089ba0819b629667d7", func := "rundle/rundlelaw18.PlanRelinks", spec := "planRelinks", unfollowed := true, recurses := true, apart := false, narrowed := true }
def PlanRelinksUptoSaid : Prop := planRelinksUptoRow.holds Try.pinned (OpenSpec.upto planRelinksSpec)

/-- 'rundlelaw18.PlanLeads', WHERE WHAT IT READS IS OF BULK AT MOST 1048576: true; the input reads as it did. -/
def planLeadsUptoRow : OpenClaim := { program := "ytoaacdjcjicemaa", sum := "78e6c5d37c48501ada7de6eb443b44376ef0ac72b2964d089ba0819b629667d7", func := "rundle/rundlelaw18.PlanLeads", spec := "planLeads", unfollowed := true, recurses := true, apart := false, narrowed := true }
def PlanLeadsUptoSaid : Prop := planLeadsUptoRow.holds Try.pinned (OpenSpec.upto planLeadsSpec)

/-- 'rundlelaw18.PlanInserts', WHERE WHAT IT READS IS OF BULK AT MOST 1048576: true; the input reads as it did. -/
def planInsertsUptoRow : OpenClaim := { program := "ytoaacdjcjicemaa", sum := "78e6c5d37c48501ada7de6eb443b44376ef0ac72b2964d089ba0819b629667d7", func := "rundle/rundlelaw18.PlanInserts", spec := "planInserts", unfollowed := true, recurses := true, apart := false, narrowed := true }
def PlanInsertsUptoSaid : Prop := planInsertsUptoRow.holds Try.pinned (OpenSpec.upto planInsertsSpec)

/-- 'rundlelaw18.PlanEmpties', WHERE WHAT IT READS IS OF BULK AT MOST 1048576: true; the input reads as it did. -/
def planEmptiesUptoRow : OpenClaim := { program := "ytoaacdjcjicemaa", sum := "78e6c5d37c48501ada7de6eb443b44376ef0ac72b2964d089ba0819b629667d7", func := "rundle/rundlelaw18.PlanEmpties", spec := "planEmpties", unfollowed := true, recurses := true, apart := false, narrowed := true }
def PlanEmptiesUptoSaid : Prop := planEmptiesUptoRow.holds Try.pinned (OpenSpec.upto planEmptiesSpec)

/-- 'rundlelaw08.RevBack', WHERE WHAT IT READS IS OF BULK AT MOST 1048576: true; the input reads as it did. -/
def revBackUptoRow : OpenClaim := { program := "ytoaacdjcjicemaa", sum := "78e6c5d37c48501ada7de6eb443b44376ef0ac72b2964d089ba0819b629667d7", func := "rundle/rundlelaw08.RevBack", spec := "revBack", unfollowed := true, recurses := true, apart := false, narrowed := true }
def RevBackUptoSaid : Prop := revBackUptoRow.holds Try.pinned (OpenSpec.upto revBackSpec)

/-- 'rundlelaw18.PlanTakes', WHERE WHAT IT READS IS OF BULK AT MOST 1048576: true; the input reads as it did. -/
def planTakesUptoRow : OpenClaim := { program := "ytoaacdjcjicemaa", sum := "78e6c5d37c48501ada7de6eb443b44376ef0ac72b2964d089ba0819b629667d7", func := "rundle/rundlelaw18.PlanTakes", spec := "planTakes", unfollowed := true, recurses := true, apart := false, narrowed := true }
def PlanTakesUptoSaid : Prop := planTakesUptoRow.holds Try.pinned (OpenSpec.upto planTakesSpec)

end Rows
end Go.Proofs.Ytoaacdjcjicemaa
