/-
  No cell of these rows narrows 'for every input' (looked for: loops, veiled, ifaces, maps, wideKeys, modest, calm, conditions, laid).
  DERIVED. THE GIVEN ROWS OF THIS SEAT. 6 by the template 'for every input the law returns true; each argument reads behind the call as it read before'; 0 by the template 'total and deterministic' (their statements: YtchlkbaopgpldaaTotals.lean).
  GIVEN WITH THE SEED: the statements are not yours to turn. If you find one false, say at which input.
  Laid BY PROGRAM, IN A SANDBOX (cutbox-rows.mjs): the forced cells as the released guide's own fill.sh prints them over the translation 7494f424af5feccb… (all of the seat's roots in one cut). By AI agents, Wed Nov 11 2026. No macro, syntax, notation, axiom, sorry.
-/
import Derived.Test.YtchlkbaopgpldaaChecked
import GoSem.Claim
import GoSem.ClaimJoined
import GoSem.ClaimMapViews
import Derived.JoinedTies
import Derived.KernelRfl
namespace Go.Proofs.Ytchlkbaopgpldaa
/- THE CELL 'sum', in the pinned program and in every row, IS THE sha256 OF THE DUMP (.gsa) THAT YtchlkbaopgpldaaProg.lean LOADS. Nothing in Lean hashes anything: it is a label: what it is worth is what the hold of that sum in a sandbox is worth. -/
noncomputable def Try.pinned : Pinned := { name := "ytchlkbaopgpldaa", sum := "7494f424af5feccba0122c072d51ced14762a770b6cad83da2b80121c3144948", checked := Try.checked }
namespace Rows
def none {H : Type} : Left H := { results := [], args := [] }

/-- 'rundlelaw04.KeyMeets': WHATEVER THE INPUT: true; the input reads as it did. -/
def keyMeetsSpec : ChangeSpec := { name := "keyMeets", fn := fun _ => fun
  | [d1, d2, d3] => { results := [.lit (.bool true)], args := [d1, d2, d3] }
  | _ => none }
def keyMeetsRow : OpenClaim := { program := "ytchlkbaopgpldaa", sum := "7494f424af5feccba0122c072d51ced14762a770b6cad83da2b80121c3144948", func := "rundle/rundlelaw04.KeyMeets", spec := "keyMeets", apart := false }
def KeyMeetsSaid : Prop := keyMeetsRow.holds Try.pinned (OpenSpec.ofChange keyMeetsSpec)

/-- ITS FALSE NEIGHBOUR: 'it returns false'. Refute it at one input. -/
def keyMeetsWrong : ChangeSpec := { name := "keyMeets", fn := fun _ => fun
  | [d1, d2, d3] => { results := [.lit (.bool false)], args := [d1, d2, d3] }
  | _ => none }
def KeyMeetsWrongFalsely : Prop := keyMeetsRow.holds Try.pinned (OpenSpec.ofChange keyMeetsWrong)

/-- 'rundlelaw04.KeyAfter': WHATEVER THE INPUT: true; the input reads as it did. -/
def keyAfterSpec : ChangeSpec := { name := "keyAfter", fn := fun _ => fun
  | [d1, d2] => { results := [.lit (.bool true)], args := [d1, d2] }
  | _ => none }
def keyAfterRow : OpenClaim := { program := "ytchlkbaopgpldaa", sum := "7494f424af5feccba0122c072d51ced14762a770b6cad83da2b80121c3144948", func := "rundle/rundlelaw04.KeyAfter", spec := "keyAfter", apart := false }
def KeyAfterSaid : Prop := keyAfterRow.holds Try.pinned (OpenSpec.ofChange keyAfterSpec)

/-- ITS FALSE NEIGHBOUR: 'it returns false'. Refute it at one input. -/
def keyAfterWrong : ChangeSpec := { name := "keyAfter", fn := fun _ => fun
  | [d1, d2] => { results := [.lit (.bool false)], args := [d1, d2] }
  | _ => none }
def KeyAfterWrongFalsely : Prop := keyAfterRow.holds Try.pinned (OpenSpec.ofChange keyAfterWrong)

/-- 'rundlelaw04.KeyRights': WHATEVER THE INPUT: true; the input reads as it did. -/
def keyRightsSpec : ChangeSpec := { name := "keyRights", fn := fun _ => fun
  | [d1, d2] => { results := [.lit (.bool true)], args := [d1, d2] }
  | _ => none }
def keyRightsRow : OpenClaim := { program := "ytchlkbaopgpldaa", sum := "7494f424af5feccba0122c072d51ced14762a770b6cad83da2b80121c3144948", func := "rundle/rundlelaw04.KeyRights", spec := "keyRights", apart := false }
def KeyRightsSaid : Prop := keyRightsRow.holds Try.pinned (OpenSpec.ofChange keyRightsSpec)

/-- ITS FALSE NEIGHBOUR: 'it returns false'. Refute it at one input. -/
def keyRightsWrong : ChangeSpec := { name := "keyRights", fn := fun _ => fun
  | [d1, d2] => { results := [.lit (.bool false)], args := [d1, d2] }
  | _ => none }
def KeyRightsWrongFalsely : Prop := keyRightsRow.holds Try.pinned (OpenSpec.ofChange keyRightsWrong)

/-- 'rundlelaw04.KeyJoins': WHATEVER THE INPUT: true; the input reads as it did. -/
def keyJoinsSpec : ChangeSpec := { name := "keyJoins", fn := fun _ => fun
  | [d1, d2, d3] => { results := [.lit (.bool true)], args := [d1, d2, d3] }
  | _ => none }
def keyJoinsRow : OpenClaim := { program := "ytchlkbaopgpldaa", sum := "7494f424af5feccba0122c072d51ced14762a770b6cad83da2b80121c3144948", func := "rundle/rundlelaw04.KeyJoins", spec := "keyJoins", apart := false }
def KeyJoinsSaid : Prop := keyJoinsRow.holds Try.pinned (OpenSpec.ofChange keyJoinsSpec)

/-- ITS FALSE NEIGHBOUR: 'it returns false'. Refute it at one input. -/
def keyJoinsWrong : ChangeSpec := { name := "keyJoins", fn := fun _ => fun
  | [d1, d2, d3] => { results := [.lit (.bool false)], args := [d1, d2, d3] }
  | _ => none }
def KeyJoinsWrongFalsely : Prop := keyJoinsRow.holds Try.pinned (OpenSpec.ofChange keyJoinsWrong)

/-- 'rundlelaw04.KeySpans': WHATEVER THE INPUT: true; the input reads as it did. -/
def keySpansSpec : ChangeSpec := { name := "keySpans", fn := fun _ => fun
  | [d1, d2] => { results := [.lit (.bool true)], args := [d1, d2] }
  | _ => none }
def keySpansRow : OpenClaim := { program := "ytchlkbaopgpldaa", sum := "7494f424af5feccba0122c072d51ced14762a770b6cad83da2b80121c3144948", func := "rundle/rundlelaw04.KeySpans", spec := "keySpans", apart := false }
def KeySpansSaid : Prop := keySpansRow.holds Try.pinned (OpenSpec.ofChange keySpansSpec)

/-- ITS FALSE NEIGHBOUR: 'it returns false'. Refute it at one input. -/
def keySpansWrong : ChangeSpec := { name := "keySpans", fn := fun _ => fun
  | [d1, d2] => { results := [.lit (.bool false)], args := [d1, d2] }
  | _ => none }
def KeySpansWrongFalsely : Prop := keySpansRow.holds Try.pinned (OpenSpec.ofChange keySpansWrong)

/-- 'rundlelaw04.KeyCuts': WHATEVER THE INPUT: true; the input reads as it did. -/
def keyCutsSpec : ChangeSpec := { name := "keyCuts", fn := fun _ => fun
  | [d1, d2, d3] => { results := [.lit (.bool true)], args := [d1, d2, d3] }
  | _ => none }
def keyCutsRow : OpenClaim := { program := "ytchlkbaopgpldaa", sum := "7494f424af5feccba0122c072d51ced14762a770b6cad83da2b80121c3144948", func := "rundle/rundlelaw04.KeyCuts", spec := "keyCuts", apart := false }
def KeyCutsSaid : Prop := keyCutsRow.holds Try.pinned (OpenSpec.ofChange keyCutsSpec)

/-- ITS FALSE NEIGHBOUR: 'it returns false'. Refute it at one input. -/
def keyCutsWrong : ChangeSpec := { name := "keyCuts", fn := fun _ => fun
  | [d1, d2, d3] => { results := [.lit (.bool false)], args := [d1, d2, d3] }
  | _ => none }
def KeyCutsWrongFalsely : Prop := keyCutsRow.holds Try.pinned (OpenSpec.ofChange keyCutsWrong)

/- THE SECOND FORM. 'bulk': how many values and letters a reading holds, each counted each time it is reached (what is shared counts as often as it is met; a slice's spare places count too). A statement '..UptoSaid' is the law's where the arguments, and the package variables that the reading takes, are together of bulk at most 1048576: NARROWER than '..Said'. Prove '..Said' where nothing that the law and all that it calls make is longer than what came in: it says more and counts as full. Else prove '..UptoSaid'. A law counts once. -/
mutual
def uptoBulk {H : Type} : DataW H → Nat
  | .lit (.string bytes) => bytes.length + 1
  | .lit _ => 1
  | .nil => 1
  | .ptr d => uptoBulk d + 1
  | .slice elems spare => uptoBulkAll elems + uptoBulkAll spare + 1
  | .agg parts => uptoBulkAll parts + 1
  | .iface _ d => uptoBulk d + 1
  | .map entries => uptoBulkEntries entries + 1
  | .held _ => 1
def uptoBulkAll {H : Type} : List (DataW H) → Nat
  | [] => 0
  | d :: r => uptoBulk d + uptoBulkAll r
def uptoBulkEntries {H : Type} : List (Lit × DataW H) → Nat
  | [] => 0
  | x :: r => uptoBulkEntry x + uptoBulkEntries r
def uptoBulkEntry {H : Type} : Lit × DataW H → Nat
  | (.string bytes, d) => bytes.length + uptoBulk d + 1
  | (_, d) => uptoBulk d + 1
 end
def uptoSmall : (H : Type) → List (DataW H) → Bool := fun _ ds => decide (uptoBulkAll ds ≤ 1048576)
def OpenSpec.upto (s : _root_.Go.ChangeSpec) : _root_.Go.OpenSpec := { _root_.Go.OpenSpec.ofChange s with cond := some uptoSmall }

/-- 'rundlelaw04.KeyMeets', WHERE WHAT IT READS IS OF BULK AT MOST 1048576: true; the input reads as it did. -/
def keyMeetsUptoRow : OpenClaim := { program := "ytchlkbaopgpldaa", sum := "7494f424af5feccba0122c072d51ced14762a770b6cad83da2b80121c3144948", func := "rundle/rundlelaw04.KeyMeets", spec := "keyMeets", apart := false, narrowed := true }
def KeyMeetsUptoSaid : Prop := keyMeetsUptoRow.holds Try.pinned (OpenSpec.upto keyMeetsSpec)

/-- 'rundlelaw04.KeyAfter', WHERE WHAT IT READS IS OF BULK AT MOST 1048576: true; the input reads as it did. -/
def keyAfterUptoRow : OpenClaim := { program := "ytchlkbaopgpldaa", sum := "7494f424af5feccba0122c072d51ced14762a770b6cad83da2b80121c3144948", func := "rundle/rundlelaw04.KeyAfter", spec := "keyAfter", apart := false, narrowed := true }
def KeyAfterUptoSaid : Prop := keyAfterUptoRow.holds Try.pinned (OpenSpec.upto keyAfterSpec)

/-- 'rundlelaw04.KeyRights', WHERE WHAT IT READS IS OF BULK AT MOST 1048576: true; the input reads as it did. -/
def keyRightsUptoRow : OpenClaim := { program := "ytchlkbaopgpldaa", sum := "7494f424af5feccba0122c072d51ced14762a770b6cad83da2b80121c3144948", func := "rundle/rundlelaw04.KeyRights", spec := "keyRights", apart := false, narrowed := true }
def KeyRightsUptoSaid : Prop := keyRightsUptoRow.holds Try.pinned (OpenSpec.upto keyRightsSpec)

/-- 'rundlelaw04.KeyJoins', WHERE WHAT IT READS IS OF BULK AT MOST 1048576: true; the input reads as it did. -/
def keyJoinsUptoRow : OpenClaim := { program := "ytchlkbaopgpldaa", sum := "7494f424af5feccba0122c072d51ced14762a770b6cad83da2b80121c3144948", func := "rundle/rundlelaw04.KeyJoins", spec := "keyJoins", apart := false, narrowed := true }
def KeyJoinsUptoSaid : Prop := keyJoinsUptoRow.holds Try.pinned (OpenSpec.upto keyJoinsSpec)

/-- 'rundlelaw04.KeySpans', WHERE WHAT IT READS IS OF BULK AT MOST 1048576: true; the input reads as it did. -/
def keySpansUptoRow : OpenClaim := { program := "ytchlkbaopgpldaa", sum := "7494f424af5feccba0122c072d51ced14762a770b6cad83da2b80121c3144948", func := "rundle/rundlelaw04.KeySpans", spec := "keySpans", apart := false, narrowed := true }
def KeySpansUptoSaid : Prop := keySpansUptoRow.holds Try.pinned (OpenSpec.upto keySpansSpec)

/-- 'rundlelaw04.KeyCuts', WHERE WHAT IT READS IS OF BULK AT MOST 1048576: true; the input reads as it did. -/
def keyCutsUptoRow : OpenClaim := { program := "ytchlkbaopgpldaa", sum := "7494f424af5feccba0122c072d51ced14762a770b6cad83da2b80121c3144948", func := "rundle/rundlelaw04.KeyCuts", spec := "keyCuts", apart := false, narrowed := true }
def KeyCutsUptoSaid : Prop := keyCutsUptoRow.holds Try.pinned (OpenSpec.upto keyCutsSpec)

end Rows
end Go.Proofs.Ytchlkbaopgpldaa
