/-
  No cell of these rows narrows 'for every input' (looked for: loops, veiled, ifaces, maps, wideKeys, modest, calm, conditions, laid).
  DERIVED. THE GIVEN ROWS OF THIS SEAT. 8 by the template 'for every input the law returns true; each argument reads behind the call as it read before'; 0 by the template 'total and deterministic' (their statements: YtcfbjcadpcedhaaTotals.lean).
  GIVEN WITH THE SEED: the statements are not yours to turn. If you find one false, say at which input.
  Laid BY PROGRAM, IN A SANDBOX (cutbox-rows.mjs): the forced cells as the released guide's own fill.sh prints them over the translation a56e09684d2114ca… (all of the seat's roots in one cut). By AI agents, Wed Nov 11 2026. No macro, syntax, notation, axiom, sorry.
-/
import Derived.Test.YtcfbjcadpcedhaaChecked
import GoSem.Claim
import GoSem.ClaimJoined
import GoSem.ClaimMapViews
import Derived.JoinedTies
import Derived.KernelRfl
namespace Go.Proofs.Ytcfbjcadpcedhaa
/- THE CELL 'sum', in the pinned program and in every row, IS THE sha256 OF THE DUMP (.gsa) THAT YtcfbjcadpcedhaaProg.lean LOADS. Nothing in Lean hashes anything: it is a label: what it is worth is what the hold of that sum in a sandbox is worth. -/
noncomputable def Try.pinned : Pinned := { name := "ytcfbjcadpcedhaa", sum := "a56e09684d2114cab90d7964c361f4450a0008e3823c325b48949cd044df90c8", checked := Try.checked }
namespace Rows
def none {H : Type} : Left H := { results := [], args := [] }

/-- 'rundlelaw16.NodeFull': WHATEVER THE INPUT: true; the input reads as it did. -/
def nodeFullSpec : ChangeSpec := { name := "nodeFull", fn := fun _ => fun
  | [d1, d2] => { results := [.lit (.bool true)], args := [d1, d2] }
  | _ => none }
def nodeFullRow : OpenClaim := { program := "ytcfbjcadpcedhaa", sum := "a56e09684d2114cab90d7964c361f4450a0008e3823c325b48949cd044df90c8", func := "rundle/rundlelaw16.NodeFull", spec := "nodeFull", unfollowed := true, recurses := true, apart := false }
def NodeFullSaid : Prop := nodeFullRow.holds Try.pinned (OpenSpec.ofChange nodeFullSpec)

/-- ITS FALSE NEIGHBOUR: 'it returns false'. Refute it at one input. -/
def nodeFullWrong : ChangeSpec := { name := "nodeFull", fn := fun _ => fun
  | [d1, d2] => { results := [.lit (.bool false)], args := [d1, d2] }
  | _ => none }
def NodeFullWrongFalsely : Prop := nodeFullRow.holds Try.pinned (OpenSpec.ofChange nodeFullWrong)

/-- 'rundlelaw16.NodeChains': WHATEVER THE INPUT: true; the input reads as it did. -/
def nodeChainsSpec : ChangeSpec := { name := "nodeChains", fn := fun _ => fun
  | [d1, d2] => { results := [.lit (.bool true)], args := [d1, d2] }
  | _ => none }
def nodeChainsRow : OpenClaim := { program := "ytcfbjcadpcedhaa", sum := "a56e09684d2114cab90d7964c361f4450a0008e3823c325b48949cd044df90c8", func := "rundle/rundlelaw16.NodeChains", spec := "nodeChains", unfollowed := true, recurses := true, apart := false }
def NodeChainsSaid : Prop := nodeChainsRow.holds Try.pinned (OpenSpec.ofChange nodeChainsSpec)

/-- ITS FALSE NEIGHBOUR: 'it returns false'. Refute it at one input. -/
def nodeChainsWrong : ChangeSpec := { name := "nodeChains", fn := fun _ => fun
  | [d1, d2] => { results := [.lit (.bool false)], args := [d1, d2] }
  | _ => none }
def NodeChainsWrongFalsely : Prop := nodeChainsRow.holds Try.pinned (OpenSpec.ofChange nodeChainsWrong)

/-- 'rundlelaw16.NodeCuts': WHATEVER THE INPUT: true; the input reads as it did. -/
def nodeCutsSpec : ChangeSpec := { name := "nodeCuts", fn := fun _ => fun
  | [d1, d2] => { results := [.lit (.bool true)], args := [d1, d2] }
  | _ => none }
def nodeCutsRow : OpenClaim := { program := "ytcfbjcadpcedhaa", sum := "a56e09684d2114cab90d7964c361f4450a0008e3823c325b48949cd044df90c8", func := "rundle/rundlelaw16.NodeCuts", spec := "nodeCuts", unfollowed := true, recurses := true, apart := false }
def NodeCutsSaid : Prop := nodeCutsRow.holds Try.pinned (OpenSpec.ofChange nodeCutsSpec)

/-- ITS FALSE NEIGHBOUR: 'it returns false'. Refute it at one input. -/
def nodeCutsWrong : ChangeSpec := { name := "nodeCuts", fn := fun _ => fun
  | [d1, d2] => { results := [.lit (.bool false)], args := [d1, d2] }
  | _ => none }
def NodeCutsWrongFalsely : Prop := nodeCutsRow.holds Try.pinned (OpenSpec.ofChange nodeCutsWrong)

/-- 'rundlelaw16.NodeFells': WHATEVER THE INPUT: true; the input reads as it did. -/
def nodeFellsSpec : ChangeSpec := { name := "nodeFells", fn := fun _ => fun
  | [d1, d2] => { results := [.lit (.bool true)], args := [d1, d2] }
  | _ => none }
def nodeFellsRow : OpenClaim := { program := "ytcfbjcadpcedhaa", sum := "a56e09684d2114cab90d7964c361f4450a0008e3823c325b48949cd044df90c8", func := "rundle/rundlelaw16.NodeFells", spec := "nodeFells", unfollowed := true, recurses := true, apart := false }
def NodeFellsSaid : Prop := nodeFellsRow.holds Try.pinned (OpenSpec.ofChange nodeFellsSpec)

/-- ITS FALSE NEIGHBOUR: 'it returns false'. Refute it at one input. -/
def nodeFellsWrong : ChangeSpec := { name := "nodeFells", fn := fun _ => fun
  | [d1, d2] => { results := [.lit (.bool false)], args := [d1, d2] }
  | _ => none }
def NodeFellsWrongFalsely : Prop := nodeFellsRow.holds Try.pinned (OpenSpec.ofChange nodeFellsWrong)

/-- 'rundlelaw16.NodeBack': WHATEVER THE INPUT: true; the input reads as it did. -/
def nodeBackSpec : ChangeSpec := { name := "nodeBack", fn := fun _ => fun
  | [d1, d2, d3, d4] => { results := [.lit (.bool true)], args := [d1, d2, d3, d4] }
  | _ => none }
def nodeBackRow : OpenClaim := { program := "ytcfbjcadpcedhaa", sum := "a56e09684d2114cab90d7964c361f4450a0008e3823c325b48949cd044df90c8", func := "rundle/rundlelaw16.NodeBack", spec := "nodeBack", unfollowed := true, recurses := true, apart := false }
def NodeBackSaid : Prop := nodeBackRow.holds Try.pinned (OpenSpec.ofChange nodeBackSpec)

/-- ITS FALSE NEIGHBOUR: 'it returns false'. Refute it at one input. -/
def nodeBackWrong : ChangeSpec := { name := "nodeBack", fn := fun _ => fun
  | [d1, d2, d3, d4] => { results := [.lit (.bool false)], args := [d1, d2, d3, d4] }
  | _ => none }
def NodeBackWrongFalsely : Prop := nodeBackRow.holds Try.pinned (OpenSpec.ofChange nodeBackWrong)

/-- 'rundlelaw16.NodeKinds': WHATEVER THE INPUT: true; the input reads as it did. -/
def nodeKindsSpec : ChangeSpec := { name := "nodeKinds", fn := fun _ => fun
  | [d] => { results := [.lit (.bool true)], args := [d] }
  | _ => none }
def nodeKindsRow : OpenClaim := { program := "ytcfbjcadpcedhaa", sum := "a56e09684d2114cab90d7964c361f4450a0008e3823c325b48949cd044df90c8", func := "rundle/rundlelaw16.NodeKinds", spec := "nodeKinds", unfollowed := true, recurses := true, apart := false }
def NodeKindsSaid : Prop := nodeKindsRow.holds Try.pinned (OpenSpec.ofChange nodeKindsSpec)

/-- ITS FALSE NEIGHBOUR: 'it returns false'. Refute it at one input. -/
def nodeKindsWrong : ChangeSpec := { name := "nodeKinds", fn := fun _ => fun
  | [d] => { results := [.lit (.bool false)], args := [d] }
  | _ => none }
def NodeKindsWrongFalsely : Prop := nodeKindsRow.holds Try.pinned (OpenSpec.ofChange nodeKindsWrong)

/-- 'rundlelaw16.NodeReads': WHATEVER THE INPUT: true; the input reads as it did. -/
def nodeReadsSpec : ChangeSpec := { name := "nodeReads", fn := fun _ => fun
  | [d1, d2, d3, d4] => { results := [.lit (.bool true)], args := [d1, d2, d3, d4] }
  | _ => none }
def nodeReadsRow : OpenClaim := { program := "ytcfbjcadpcedhaa", sum := "a56e09684d2114cab90d7964c361f4450a0008e3823c325b48949cd044df90c8", func := "rundle/rundlelaw16.NodeReads", spec := "nodeReads", unfollowed := true, recurses := true, apart := false }
def NodeReadsSaid : Prop := nodeReadsRow.holds Try.pinned (OpenSpec.ofChange nodeReadsSpec)

/-- ITS FALSE NEIGHBOUR: 'it returns false'. Refute it at one input. -/
def nodeReadsWrong : ChangeSpec := { name := "nodeReads", fn := fun _ => fun
  | [d1, d2, d3, d4] => { results := [.lit (.bool false)], args := [d1, d2, d3, d4] }
  | _ => none }
def NodeReadsWrongFalsely : Prop := nodeReadsRow.holds Try.pinned (OpenSpec.ofChange nodeReadsWrong)

/-- 'rundlelaw16.NodeShares': WHATEVER THE INPUT: true; the input reads as it did. -/
def nodeSharesSpec : ChangeSpec := { name := "nodeShares", fn := fun _ => fun
  | [d1, d2, d3] => { results := [.lit (.bool true)], args := [d1, d2, d3] }
  | _ => none }
def nodeSharesRow : OpenClaim := { program := "ytcfbjcadpcedhaa", sum := "a56e09684d2114cab90d7964c361f4450a0008e3823c325b48949cd044df90c8", func := "rundle/rundlelaw16.NodeShares", spec := "nodeShares", unfollowed := true, recurses := true, apart := false }
def NodeSharesSaid : Prop := nodeSharesRow.holds Try.pinned (OpenSpec.ofChange nodeSharesSpec)

/-- ITS FALSE NEIGHBOUR: 'it returns false'. Refute it at one input. -/
def nodeSharesWrong : ChangeSpec := { name := "nodeShares", fn := fun _ => fun
  | [d1, d2, d3] => { results := [.lit (.bool false)], args := [d1, d2, d3] }
  | _ => none }
def NodeSharesWrongFalsely : Prop := nodeSharesRow.holds Try.pinned (OpenSpec.ofChange nodeSharesWrong)

/- THE SECOND FORM. 'bulk': how many values and letters a reading holds, each counted each time it is reached (what is shared counts as often as it is met; a slice's spare places count too). A statement '..UptoSaid' is the law's where the arguments, and the package variables that the reading takes, are together of bulk at most 1048576: NARROWER than '..Said'. Prove '..Said' where nothing that the law and all that it calls make is longer than what came in: it says more and counts as full. Else prove '..UptoSaid'. A law counts once. -/
mutual
def uptoBulk {H : Type} : DataW H → Nat
  | .lit (.string bytes) => bytes.length + 1
  | .lit _ => 1
  | .nil => 1
  | .ptr d => uptoBulk d + 1
  | .slice elems spare => uptoBulkAll elems + uptoBulkAll spare + 1
  | .agg parts => uptoBulkAll parts + 1
  | .iface _ d => uptoBulk d + 1
  | .map entries => uptoBulkEntries entries + 1
  | .held _ => 1
def uptoBulkAll {H : Type} : List (DataW H) → Nat
  | [] => 0
  | d :: r => uptoBulk d + uptoBulkAll r
def uptoBulkEntries {H : Type} : List (Lit × DataW H) → Nat
  | [] => 0
  | x :: r => uptoBulkEntry x + uptoBulkEntries r
def uptoBulkEntry {H : Type} : Lit × DataW H → Nat
  | (.string bytes, d) => bytes.length + uptoBulk d + 1
  | (_, d) => uptoBulk d + 1
 end
def uptoSmall : (H : Type) → List (DataW H) → Bool := fun _ ds => decide (uptoBulkAll ds ≤ 1048576)
def OpenSpec.upto (s : _root_.Go.ChangeSpec) : _root_.Go.OpenSpec := { _root_.Go.OpenSpec.ofChange s with cond := some uptoSmall }

/-- 'rundlelaw16.NodeFull', WHERE WHAT IT READS IS OF BULK AT MOST 1048576: true; the input reads as it did. -/
def nodeFullUptoRow : OpenClaim := { program := "ytcfbjcadpcedhaa", sum := "a56e09684d2114cab90d7964c361f4450a0008e3823c325b48949cd044df90c8", func := "rundle/rundlelaw16.NodeFull", spec := "nodeFull", unfollowed := true, recurses := true, apart := false, narrowed := true }
def NodeFullUptoSaid : Prop := nodeFullUptoRow.holds Try.pinned (OpenSpec.upto nodeFullSpec)

/-- 'rundlelaw16.NodeChains', WHERE WHAT IT READS IS OF BULK AT MOST 1048576: true; the input reads as it did. -/
def nodeChainsUptoRow : OpenClaim := { program := "ytcfbjcadpcedhaa", sum := "a56e09684d2114cab90d7964c361f4450a0008e3823c325b48949cd044df90c8", func := "rundle/rundlelaw16.NodeChains", spec := "nodeChains", unfollowed := true, recurses := true, apart := false, narrowed := true }
def NodeChainsUptoSaid : Prop := nodeChainsUptoRow.holds Try.pinned (OpenSpec.upto nodeChainsSpec)

/-- 'rundlelaw16.NodeCuts', WHERE WHAT IT READS IS OF BULK AT MOST 1048576: true; the input reads as it did. -/
def nodeCutsUptoRow : OpenClaim := { program := "ytcfbjcadpcedhaa", sum := "a56e09684d2114cab90d7964c361f4450a0008e3823c325b48949cd044df90c8", func := "rundle/rundlelaw16.NodeCuts", spec := "nodeCuts", unfollowed := true, recurses := true, apart := false, narrowed := true }
def NodeCutsUptoSaid : Prop := nodeCutsUptoRow.holds Try.pinned (OpenSpec.upto nodeCutsSpec)

/-- 'rundlelaw16.NodeFells', WHERE WHAT IT READS IS OF BULK AT MOST 1048576: true; the input reads as it did. -/
def nodeFellsUptoRow : OpenClaim := { program := "ytcfbjcadpcedhaa", sum := "a56e09684d2114cab90d7964c361f4450a0008e3823c325b48949cd044df90c8", func := "rundle/rundlelaw16.NodeFells", spec := "nodeFells", unfollowed := true, recurses := true, apart := false, narrowed := true }
def NodeFellsUptoSaid : Prop := nodeFellsUptoRow.holds Try.pinned (OpenSpec.upto nodeFellsSpec)

/-- 'rundlelaw16.NodeBack', WHERE WHAT IT READS IS OF BULK AT MOST 1048576: true; the input reads as it did. -/
def nodeBackUptoRow : OpenClaim := { program := "ytcfbjcadpcedhaa", sum := "a56e09684d2114cab90d7964c361f4450a0008e3823c325b48949cd044df90c8", func := "rundle/rundlelaw16.NodeBack", spec := "nodeBack", unfollowed := true, recurses := true, apart := false, narrowed := true }
def NodeBackUptoSaid : Prop := nodeBackUptoRow.holds Try.pinned (OpenSpec.upto nodeBackSpec)

/-- 'rundlelaw16.NodeKinds', WHERE WHAT IT READS IS OF BULK AT MOST 1048576: true; the input reads as it did. -/
def nodeKindsUptoRow : OpenClaim := { program := "ytcfbjcadpcedhaa", sum := "a56e09684d2114cab90d7964c361f4450a0008e3823c325b48949cd044df90c8", func := "rundle/rundlelaw16.NodeKinds", spec := "nodeKinds", unfollowed := true, recurses := true, apart := false, narrowed := true }
def NodeKindsUptoSaid : Prop := nodeKindsUptoRow.holds Try.pinned (OpenSpec.upto nodeKindsSpec)

/-- 'rundlelaw16.NodeReads', WHERE WHAT IT READS IS OF BULK AT MOST 1048576: true; the input reads as it did. -/
def nodeReadsUptoRow : OpenClaim := { program := "ytcfbjcadpcedhaa", sum := "a56e09684d2114cab90d7964c361f4450a0008e3823c325b48949cd044df90c8", func := "rundle/rundlelaw16.NodeReads", spec := "nodeReads", unfollowed := true, recurses := true, apart := false, narrowed := true }
def NodeReadsUptoSaid : Prop := nodeReadsUptoRow.holds Try.pinned (OpenSpec.upto nodeReadsSpec)

/-- 'rundlelaw16.NodeShares', WHERE WHAT IT READS IS OF BULK AT MOST 1048576: true; the input reads as it did. -/
def nodeSharesUptoRow : OpenClaim := { program := "ytcfbjcadpcedhaa", sum := "a56e09684d2114cab90d7964c361f4450a0008e3823c325b48949cd044df90c8", func := "rundle/rundlelaw16.NodeShares", spec := "nodeShares", unfollowed := true, recurses := true, apart := false, narrowed := true }
def NodeSharesUptoSaid : Prop := nodeSharesUptoRow.holds Try.pinned (OpenSpec.upto nodeSharesSpec)

end Rows
end Go.Proofs.Ytcfbjcadpcedhaa
