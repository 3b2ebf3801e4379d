/-
  No cell of these rows narrows 'for every input' (looked for: loops, veiled, ifaces, maps, wideKeys, modest, calm, conditions, laid).
  DERIVED. THE GIVEN ROWS OF THIS SEAT. 9 by the template 'for every input the law returns true; each argument reads behind the call as it read before'; 0 by the template 'total and deterministic' (their statements: YtahnmklofgnagaaTotals.lean).
  GIVEN WITH THE SEED: the statements are not yours to turn. If you find one false, say at which input.
  Laid BY PROGRAM, IN A SANDBOX (cutbox-rows.mjs): the forced cells as the released guide's own fill.sh prints them over the translation 52e41f86b5cc09ea… (all of the seat's roots in one cut). By AI agents, Wed Nov 11 2026. No macro, syntax, notation, axiom, sorry.
-/
import Derived.Test.YtahnmklofgnagaaChecked
import GoSem.Claim
import GoSem.ClaimJoined
import GoSem.ClaimMapViews
import Derived.JoinedTies
import Derived.KernelRfl
namespace Go.Proofs.Ytahnmklofgnagaa
/- THE CELL 'sum', in the pinned program and in every row, IS THE sha256 OF THE DUMP (.gsa) THAT YtahnmklofgnagaaProg.lean LOADS. Nothing in Lean hashes anything: it is a label: what it is worth is what the hold of that sum in a sandbox is worth. -/
noncomputable def Try.pinned : Pinned := { name := "ytahnmklofgnagaa", sum := "52e41f86b5cc09eab820adc8aea1b4b1aa97ade033aaf3af34f97e34df9b834b", checked := Try.checked }
namespace Rows
def none {H : Type} : Left H := { results := [], args := [] }

/-- 'rundlelaw14.DescPlays': WHATEVER THE INPUT: true; the input reads as it did. -/
def descPlaysSpec : ChangeSpec := { name := "descPlays", fn := fun _ => fun
  | [d] => { results := [.lit (.bool true)], args := [d] }
  | _ => none }
def descPlaysRow : OpenClaim := { program := "ytahnmklofgnagaa", sum := "52e41f86b5cc09eab820adc8aea1b4b1aa97ade033aaf3af34f97e34df9b834b", func := "rundle/rundlelaw14.DescPlays", spec := "descPlays", unfollowed := true, recurses := true, apart := false }
def DescPlaysSaid : Prop := descPlaysRow.holds Try.pinned (OpenSpec.ofChange descPlaysSpec)

/-- ITS FALSE NEIGHBOUR: 'it returns false'. Refute it at one input. -/
def descPlaysWrong : ChangeSpec := { name := "descPlays", fn := fun _ => fun
  | [d] => { results := [.lit (.bool false)], args := [d] }
  | _ => none }
def DescPlaysWrongFalsely : Prop := descPlaysRow.holds Try.pinned (OpenSpec.ofChange descPlaysWrong)

/-- 'rundlelaw14.DescRefuses': WHATEVER THE INPUT: true; the input reads as it did. -/
def descRefusesSpec : ChangeSpec := { name := "descRefuses", fn := fun _ => fun
  | [d] => { results := [.lit (.bool true)], args := [d] }
  | _ => none }
def descRefusesRow : OpenClaim := { program := "ytahnmklofgnagaa", sum := "52e41f86b5cc09eab820adc8aea1b4b1aa97ade033aaf3af34f97e34df9b834b", func := "rundle/rundlelaw14.DescRefuses", spec := "descRefuses", unfollowed := true, recurses := true, apart := false }
def DescRefusesSaid : Prop := descRefusesRow.holds Try.pinned (OpenSpec.ofChange descRefusesSpec)

/-- ITS FALSE NEIGHBOUR: 'it returns false'. Refute it at one input. -/
def descRefusesWrong : ChangeSpec := { name := "descRefuses", fn := fun _ => fun
  | [d] => { results := [.lit (.bool false)], args := [d] }
  | _ => none }
def DescRefusesWrongFalsely : Prop := descRefusesRow.holds Try.pinned (OpenSpec.ofChange descRefusesWrong)

/-- 'rundlelaw14.DescCounts': WHATEVER THE INPUT: true; the input reads as it did. -/
def descCountsSpec : ChangeSpec := { name := "descCounts", fn := fun _ => fun
  | [d1, d2, d3] => { results := [.lit (.bool true)], args := [d1, d2, d3] }
  | _ => none }
def descCountsRow : OpenClaim := { program := "ytahnmklofgnagaa", sum := "52e41f86b5cc09eab820adc8aea1b4b1aa97ade033aaf3af34f97e34df9b834b", func := "rundle/rundlelaw14.DescCounts", spec := "descCounts", unfollowed := true, recurses := true, apart := false }
def DescCountsSaid : Prop := descCountsRow.holds Try.pinned (OpenSpec.ofChange descCountsSpec)

/-- ITS FALSE NEIGHBOUR: 'it returns false'. Refute it at one input. -/
def descCountsWrong : ChangeSpec := { name := "descCounts", fn := fun _ => fun
  | [d1, d2, d3] => { results := [.lit (.bool false)], args := [d1, d2, d3] }
  | _ => none }
def DescCountsWrongFalsely : Prop := descCountsRow.holds Try.pinned (OpenSpec.ofChange descCountsWrong)

/-- 'rundlelaw14.DescFull': WHATEVER THE INPUT: true; the input reads as it did. -/
def descFullSpec : ChangeSpec := { name := "descFull", fn := fun _ => fun
  | [d] => { results := [.lit (.bool true)], args := [d] }
  | _ => none }
def descFullRow : OpenClaim := { program := "ytahnmklofgnagaa", sum := "52e41f86b5cc09eab820adc8aea1b4b1aa97ade033aaf3af34f97e34df9b834b", func := "rundle/rundlelaw14.DescFull", spec := "descFull", unfollowed := true, recurses := true, apart := false }
def DescFullSaid : Prop := descFullRow.holds Try.pinned (OpenSpec.ofChange descFullSpec)

/-- ITS FALSE NEIGHBOUR: 'it returns false'. Refute it at one input. -/
def descFullWrong : ChangeSpec := { name := "descFull", fn := fun _ => fun
  | [d] => { results := [.lit (.bool false)], args := [d] }
  | _ => none }
def DescFullWrongFalsely : Prop := descFullRow.holds Try.pinned (OpenSpec.ofChange descFullWrong)

/-- 'rundlelaw14.DescHelped': WHATEVER THE INPUT: true; the input reads as it did. -/
def descHelpedSpec : ChangeSpec := { name := "descHelped", fn := fun _ => fun
  | [d1, d2, d3, d4] => { results := [.lit (.bool true)], args := [d1, d2, d3, d4] }
  | _ => none }
def descHelpedRow : OpenClaim := { program := "ytahnmklofgnagaa", sum := "52e41f86b5cc09eab820adc8aea1b4b1aa97ade033aaf3af34f97e34df9b834b", func := "rundle/rundlelaw14.DescHelped", spec := "descHelped", unfollowed := true, recurses := true, apart := false }
def DescHelpedSaid : Prop := descHelpedRow.holds Try.pinned (OpenSpec.ofChange descHelpedSpec)

/-- ITS FALSE NEIGHBOUR: 'it returns false'. Refute it at one input. -/
def descHelpedWrong : ChangeSpec := { name := "descHelped", fn := fun _ => fun
  | [d1, d2, d3, d4] => { results := [.lit (.bool false)], args := [d1, d2, d3, d4] }
  | _ => none }
def DescHelpedWrongFalsely : Prop := descHelpedRow.holds Try.pinned (OpenSpec.ofChange descHelpedWrong)

/-- 'rundlelaw15.RegFull': WHATEVER THE INPUT: true; the input reads as it did. -/
def regFullSpec : ChangeSpec := { name := "regFull", fn := fun _ => fun
  | [d1, d2, d3] => { results := [.lit (.bool true)], args := [d1, d2, d3] }
  | _ => none }
def regFullRow : OpenClaim := { program := "ytahnmklofgnagaa", sum := "52e41f86b5cc09eab820adc8aea1b4b1aa97ade033aaf3af34f97e34df9b834b", func := "rundle/rundlelaw15.RegFull", spec := "regFull", unfollowed := true, recurses := true, apart := false }
def RegFullSaid : Prop := regFullRow.holds Try.pinned (OpenSpec.ofChange regFullSpec)

/-- ITS FALSE NEIGHBOUR: 'it returns false'. Refute it at one input. -/
def regFullWrong : ChangeSpec := { name := "regFull", fn := fun _ => fun
  | [d1, d2, d3] => { results := [.lit (.bool false)], args := [d1, d2, d3] }
  | _ => none }
def RegFullWrongFalsely : Prop := regFullRow.holds Try.pinned (OpenSpec.ofChange regFullWrong)

/-- 'rundlelaw15.RegIds': WHATEVER THE INPUT: true; the input reads as it did. -/
def regIdsSpec : ChangeSpec := { name := "regIds", fn := fun _ => fun
  | [d1, d2] => { results := [.lit (.bool true)], args := [d1, d2] }
  | _ => none }
def regIdsRow : OpenClaim := { program := "ytahnmklofgnagaa", sum := "52e41f86b5cc09eab820adc8aea1b4b1aa97ade033aaf3af34f97e34df9b834b", func := "rundle/rundlelaw15.RegIds", spec := "regIds", unfollowed := true, recurses := true, apart := false }
def RegIdsSaid : Prop := regIdsRow.holds Try.pinned (OpenSpec.ofChange regIdsSpec)

/-- ITS FALSE NEIGHBOUR: 'it returns false'. Refute it at one input. -/
def regIdsWrong : ChangeSpec := { name := "regIds", fn := fun _ => fun
  | [d1, d2] => { results := [.lit (.bool false)], args := [d1, d2] }
  | _ => none }
def RegIdsWrongFalsely : Prop := regIdsRow.holds Try.pinned (OpenSpec.ofChange regIdsWrong)

/-- 'rundlelaw15.RegPlays': WHATEVER THE INPUT: true; the input reads as it did. -/
def regPlaysSpec : ChangeSpec := { name := "regPlays", fn := fun _ => fun
  | [d1, d2, d3] => { results := [.lit (.bool true)], args := [d1, d2, d3] }
  | _ => none }
def regPlaysRow : OpenClaim := { program := "ytahnmklofgnagaa", sum := "52e41f86b5cc09eab820adc8aea1b4b1aa97ade033aaf3af34f97e34df9b834b", func := "rundle/rundlelaw15.RegPlays", spec := "regPlays", unfollowed := true, recurses := true, apart := false }
def RegPlaysSaid : Prop := regPlaysRow.holds Try.pinned (OpenSpec.ofChange regPlaysSpec)

/-- ITS FALSE NEIGHBOUR: 'it returns false'. Refute it at one input. -/
def regPlaysWrong : ChangeSpec := { name := "regPlays", fn := fun _ => fun
  | [d1, d2, d3] => { results := [.lit (.bool false)], args := [d1, d2, d3] }
  | _ => none }
def RegPlaysWrongFalsely : Prop := regPlaysRow.holds Try.pinned (OpenSpec.ofChange regPlaysWrong)

/-- 'rundlelaw15.RegKeeps': WHATEVER THE INPUT: true; the input reads as it did. -/
def regKeepsSpec : ChangeSpec := { name := "regKeeps", fn := fun _ => fun
  | [d1, d2] => { results := [.lit (.bool true)], args := [d1, d2] }
  | _ => none }
def regKeepsRow : OpenClaim := { program := "ytahnmklofgnagaa", sum := "52e41f86b5cc09eab820adc8aea1b4b1aa97ade033aaf3af34f97e34df9b834b", func := "rundle/rundlelaw15.RegKeeps", spec := "regKeeps", unfollowed := true, recurses := true, apart := false }
def RegKeepsSaid : Prop := regKeepsRow.holds Try.pinned (OpenSpec.ofChange regKeepsSpec)

/-- ITS FALSE NEIGHBOUR: 'it returns false'. Refute it at one input. -/
def regKeepsWrong : ChangeSpec := { name := "regKeeps", fn := fun _ => fun
  | [d1, d2] => { results := [.lit (.bool false)], args := [d1, d2] }
  | _ => none }
def RegKeepsWrongFalsely : Prop := regKeepsRow.holds Try.pinned (OpenSpec.ofChange regKeepsWrong)

/- THE SECOND FORM. 'bulk': how many values and letters a reading holds, each counted each time it is reached (what is shared counts as often as it is met; a slice's spare places count too). A statement '..UptoSaid' is the law's where the arguments, and the package variables that the reading takes, are together of bulk at most 1048576: NARROWER than '..Said'. Prove '..Said' where nothing that the law and all that it calls make is longer than what came in: it says more and counts as full. Else prove '..UptoSaid'. A law counts once. -/
mutual
def uptoBulk {H : Type} : DataW H → Nat
  | .lit (.string bytes) => bytes.length + 1
  | .lit _ => 1
  | .nil => 1
  | .ptr d => uptoBulk d + 1
  | .slice elems spare => uptoBulkAll elems + uptoBulkAll spare + 1
  | .agg parts => uptoBulkAll parts + 1
  | .iface _ d => uptoBulk d + 1
  | .map entries => uptoBulkEntries entries + 1
  | .held _ => 1
def uptoBulkAll {H : Type} : List (DataW H) → Nat
  | [] => 0
  | d :: r => uptoBulk d + uptoBulkAll r
def uptoBulkEntries {H : Type} : List (Lit × DataW H) → Nat
  | [] => 0
  | x :: r => uptoBulkEntry x + uptoBulkEntries r
def uptoBulkEntry {H : Type} : Lit × DataW H → Nat
  | (.string bytes, d) => bytes.length + uptoBulk d + 1
  | (_, d) => uptoBulk d + 1
 end
def uptoSmall : (H : Type) → List (DataW H) → Bool := fun _ ds => decide (uptoBulkAll ds ≤ 1048576)
def OpenSpec.upto (s : _root_.Go.ChangeSpec) : _root_.Go.OpenSpec := { _root_.Go.OpenSpec.ofChange s with cond := some uptoSmall }

/-- 'rundlelaw14.DescPlays', WHERE WHAT IT READS IS OF BULK AT MOST 1048576: true; the input reads as it did. -/
def descPlaysUptoRow : OpenClaim := { program := "ytahnmklofgnagaa", sum := "52e41f86b5cc09eab820adc8aea1b4b1aa97ade033aaf3af34f97e34df9b834b", func := "rundle/rundlelaw14.DescPlays", spec := "descPlays", unfollowed := true, recurses := true, apart := false, narrowed := true }
def DescPlaysUptoSaid : Prop := descPlaysUptoRow.holds Try.pinned (OpenSpec.upto descPlaysSpec)

/-- 'rundlelaw14.DescRefuses', WHERE WHAT IT READS IS OF BULK AT MOST 1048576: true; the input reads as it did. -/
def descRefusesUptoRow : OpenClaim := { program := "ytahnmklofgnagaa", sum := "52e41f86b5cc09eab820adc8aea1b4b1aa97ade033aaf3af34f97e34df9b834b", func := "rundle/rundlelaw14.DescRefuses", spec := "descRefuses", unfollowed := true, recurses := true, apart := false, narrowed := true }
def DescRefusesUptoSaid : Prop := descRefusesUptoRow.holds Try.pinned (OpenSpec.upto descRefusesSpec)

/-- 'rundlelaw14.DescCounts', WHERE WHAT IT READS IS OF BULK AT MOST 1048576: true; the input reads as it did. -/
def descCountsUptoRow : OpenClaim := { program := "ytahnmklofgnagaa", sum := "52e41f86b5cc09eab820adc8aea1b4b1aa97ade033aaf3af34f97e34df9b834b", func := "rundle/rundlelaw14.DescCounts", spec := "descCounts", unfollowed := true, recurses := true, apart := false, narrowed := true }
def DescCountsUptoSaid : Prop := descCountsUptoRow.holds Try.pinned (OpenSpec.upto descCountsSpec)

/-- 'rundlelaw14.DescFull', WHERE WHAT IT READS IS OF BULK AT MOST 1048576: true; the input reads as it did. -/
def descFullUptoRow : OpenClaim := { program := "ytahnmklofgnagaa", sum := "52e41f86b5cc09eab820adc8aea1b4b1aa97ade033aaf3af34f97e34df9b834b", func := "rundle/rundlelaw14.DescFull", spec := "descFull", unfollowed := true, recurses := true, apart := false, narrowed := true }
def DescFullUptoSaid : Prop := descFullUptoRow.holds Try.pinned (OpenSpec.upto descFullSpec)

/-- 'rundlelaw14.DescHelped', WHERE WHAT IT READS IS OF BULK AT MOST 1048576: true; the input reads as it did. -/
def descHelpedUptoRow : OpenClaim := { program := "ytahnmklofgnagaa", sum := "52e41f86b5cc09eab820adc8aea1b4b1aa97ade033aaf3af34f97e34df9b834b", func := "rundle/rundlelaw14.DescHelped", spec := "descHelped", unfollowed := true, recurses := true, apart := false, narrowed := true }
def DescHelpedUptoSaid : Prop := descHelpedUptoRow.holds Try.pinned (OpenSpec.upto descHelpedSpec)

/-- 'rundlelaw15.RegFull', WHERE WHAT IT READS IS OF BULK AT MOST 1048576: true; the input reads as it did. -/
def regFullUptoRow : OpenClaim := { program := "ytahnmklofgnagaa", sum := "52e41f86b5cc09eab820adc8aea1b4b1aa97ade033aaf3af34f97e34df9b834b", func := "rundle/rundlelaw15.RegFull", spec := "regFull", unfollowed := true, recurses := true, apart := false, narrowed := true }
def RegFullUptoSaid : Prop := regFullUptoRow.holds Try.pinned (OpenSpec.upto regFullSpec)

/-- 'rundlelaw15.RegIds', WHERE WHAT IT READS IS OF BULK AT MOST 1048576: true; the input reads as it did. -/
def regIdsUptoRow : OpenClaim := { program := "ytahnmklofgnagaa", sum := "52e41f86b5cc09eab820adc8aea1b4b1aa97ade033aaf3af34f97e34df9b834b", func := "rundle/rundlelaw15.RegIds", spec := "regIds", unfollowed := true, recurses := true, apart := false, narrowed := true }
def RegIdsUptoSaid : Prop := regIdsUptoRow.holds Try.pinned (OpenSpec.upto regIdsSpec)

/-- 'rundlelaw15.RegPlays', WHERE WHAT IT READS IS OF BULK AT MOST 1048576: true; the input reads as it did. -/
def regPlaysUptoRow : OpenClaim := { program := "ytahnmklofgnagaa", sum := "52e41f86b5cc09eab820adc8aea1b4b1aa97ade033aaf3af34f97e34df9b834b", func := "rundle/rundlelaw15.RegPlays", spec := "regPlays", unfollowed := true, recurses := true, apart := false, narrowed := true }
def RegPlaysUptoSaid : Prop := regPlaysUptoRow.holds Try.pinned (OpenSpec.upto regPlaysSpec)

/-- 'rundlelaw15.RegKeeps', WHERE WHAT IT READS IS OF BULK AT MOST 1048576: true; the input reads as it did. -/
def regKeepsUptoRow : OpenClaim := { program := "ytahnmklofgnagaa", sum := "52e41f86b5cc09eab820adc8aea1b4b1aa97ade033aaf3af34f97e34df9b834b", func := "rundle/rundlelaw15.RegKeeps", spec := "regKeeps", unfollowed := true, recurses := true, apart := false, narrowed := true }
def RegKeepsUptoSaid : Prop := regKeepsUptoRow.holds Try.pinned (OpenSpec.upto regKeepsSpec)

end Rows
end Go.Proofs.Ytahnmklofgnagaa
