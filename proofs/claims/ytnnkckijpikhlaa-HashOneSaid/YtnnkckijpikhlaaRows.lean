/-
  No cell of these rows narrows 'for every input' (looked for: loops, veiled, ifaces, maps, wideKeys, modest, calm, conditions, laid).
  DERIVED. THE GIVEN ROWS OF THIS SEAT. 12 by the template 'for every input the law returns true; each argument reads behind the call as it read before'; 0 by the template 'total and deterministic' (their statements: YtnnkckijpikhlaaTotals.lean).
  GIVEN WITH THE SEED: the statements are not yours to turn. If you find one false, say at which input.
  Laid BY PROGRAM, IN A SANDBOX (cutbox-rows.mjs): the forced cells as the released guide's own fill.sh prints them over the translation 407c44a78a7c1c0a… (all of the seat's roots in one cut). By AI agents, Wed Nov 11 2026. No macro, syntax, notation, axiom, sorry.
-/
import Derived.Test.YtnnkckijpikhlaaChecked
import GoSem.Claim
import GoSem.ClaimJoined
import GoSem.ClaimMapViews
import Derived.JoinedTies
import Derived.KernelRfl
namespace Go.Proofs.Ytnnkckijpikhlaa
/- THE CELL 'sum', in the pinned program and in every row, IS THE sha256 OF THE DUMP (.gsa) THAT YtnnkckijpikhlaaProg.lean LOADS. Nothing in Lean hashes anything: it is a label: what it is worth is what the hold of that sum in a sandbox is worth. -/
noncomputable def Try.pinned : Pinned := { name := "ytnnkckijpikhlaa", sum := "407c44a78a7c1c0afb375b19d597dae2c38bd42eabf97158f624a3a4be28e622", checked := Try.checked }
namespace Rows
def none {H : Type} : Left H := { results := [], args := [] }

/-- 'rundlelaw07.PaceBounds': WHATEVER THE INPUT: true; the input reads as it did. -/
def paceBoundsSpec : ChangeSpec := { name := "paceBounds", fn := fun _ => fun
  | [d1, d2, d3, d4, d5] => { results := [.lit (.bool true)], args := [d1, d2, d3, d4, d5] }
  | _ => none }
def paceBoundsRow : OpenClaim := { program := "ytnnkckijpikhlaa", sum := "407c44a78a7c1c0afb375b19d597dae2c38bd42eabf97158f624a3a4be28e622", func := "rundle/rundlelaw07.PaceBounds", spec := "paceBounds", apart := false }
def PaceBoundsSaid : Prop := paceBoundsRow.holds Try.pinned (OpenSpec.ofChange paceBoundsSpec)

/-- ITS FALSE NEIGHBOUR: 'it returns false'. Refute it at one input. -/
def paceBoundsWrong : ChangeSpec := { name := "paceBounds", fn := fun _ => fun
  | [d1, d2, d3, d4, d5] => { results := [.lit (.bool false)], args := [d1, d2, d3, d4, d5] }
  | _ => none }
def PaceBoundsWrongFalsely : Prop := paceBoundsRow.holds Try.pinned (OpenSpec.ofChange paceBoundsWrong)

/-- 'rundlelaw07.PaceSettles': WHATEVER THE INPUT: true; the input reads as it did. -/
def paceSettlesSpec : ChangeSpec := { name := "paceSettles", fn := fun _ => fun
  | [d1, d2] => { results := [.lit (.bool true)], args := [d1, d2] }
  | _ => none }
def paceSettlesRow : OpenClaim := { program := "ytnnkckijpikhlaa", sum := "407c44a78a7c1c0afb375b19d597dae2c38bd42eabf97158f624a3a4be28e622", func := "rundle/rundlelaw07.PaceSettles", spec := "paceSettles", apart := false }
def PaceSettlesSaid : Prop := paceSettlesRow.holds Try.pinned (OpenSpec.ofChange paceSettlesSpec)

/-- ITS FALSE NEIGHBOUR: 'it returns false'. Refute it at one input. -/
def paceSettlesWrong : ChangeSpec := { name := "paceSettles", fn := fun _ => fun
  | [d1, d2] => { results := [.lit (.bool false)], args := [d1, d2] }
  | _ => none }
def PaceSettlesWrongFalsely : Prop := paceSettlesRow.holds Try.pinned (OpenSpec.ofChange paceSettlesWrong)

/-- 'rundlelaw07.PacePlays': WHATEVER THE INPUT: true; the input reads as it did. -/
def pacePlaysSpec : ChangeSpec := { name := "pacePlays", fn := fun _ => fun
  | [d1, d2, d3, d4] => { results := [.lit (.bool true)], args := [d1, d2, d3, d4] }
  | _ => none }
def pacePlaysRow : OpenClaim := { program := "ytnnkckijpikhlaa", sum := "407c44a78a7c1c0afb375b19d597dae2c38bd42eabf97158f624a3a4be28e622", func := "rundle/rundlelaw07.PacePlays", spec := "pacePlays", apart := false }
def PacePlaysSaid : Prop := pacePlaysRow.holds Try.pinned (OpenSpec.ofChange pacePlaysSpec)

/-- ITS FALSE NEIGHBOUR: 'it returns false'. Refute it at one input. -/
def pacePlaysWrong : ChangeSpec := { name := "pacePlays", fn := fun _ => fun
  | [d1, d2, d3, d4] => { results := [.lit (.bool false)], args := [d1, d2, d3, d4] }
  | _ => none }
def PacePlaysWrongFalsely : Prop := pacePlaysRow.holds Try.pinned (OpenSpec.ofChange pacePlaysWrong)

/-- 'rundlelaw07.PaceApart': WHATEVER THE INPUT: true; the input reads as it did. -/
def paceApartSpec : ChangeSpec := { name := "paceApart", fn := fun _ => fun
  | [d1, d2, d3] => { results := [.lit (.bool true)], args := [d1, d2, d3] }
  | _ => none }
def paceApartRow : OpenClaim := { program := "ytnnkckijpikhlaa", sum := "407c44a78a7c1c0afb375b19d597dae2c38bd42eabf97158f624a3a4be28e622", func := "rundle/rundlelaw07.PaceApart", spec := "paceApart", apart := false }
def PaceApartSaid : Prop := paceApartRow.holds Try.pinned (OpenSpec.ofChange paceApartSpec)

/-- ITS FALSE NEIGHBOUR: 'it returns false'. Refute it at one input. -/
def paceApartWrong : ChangeSpec := { name := "paceApart", fn := fun _ => fun
  | [d1, d2, d3] => { results := [.lit (.bool false)], args := [d1, d2, d3] }
  | _ => none }
def PaceApartWrongFalsely : Prop := paceApartRow.holds Try.pinned (OpenSpec.ofChange paceApartWrong)

/-- 'rundlelaw05.HashPlays': WHATEVER THE INPUT: true; the input reads as it did. -/
def hashPlaysSpec : ChangeSpec := { name := "hashPlays", fn := fun _ => fun
  | [d1, d2] => { results := [.lit (.bool true)], args := [d1, d2] }
  | _ => none }
def hashPlaysRow : OpenClaim := { program := "ytnnkckijpikhlaa", sum := "407c44a78a7c1c0afb375b19d597dae2c38bd42eabf97158f624a3a4be28e622", func := "rundle/rundlelaw05.HashPlays", spec := "hashPlays", apart := false }
def HashPlaysSaid : Prop := hashPlaysRow.holds Try.pinned (OpenSpec.ofChange hashPlaysSpec)

/-- ITS FALSE NEIGHBOUR: 'it returns false'. Refute it at one input. -/
def hashPlaysWrong : ChangeSpec := { name := "hashPlays", fn := fun _ => fun
  | [d1, d2] => { results := [.lit (.bool false)], args := [d1, d2] }
  | _ => none }
def HashPlaysWrongFalsely : Prop := hashPlaysRow.holds Try.pinned (OpenSpec.ofChange hashPlaysWrong)

/-- 'rundlelaw05.HashParts': WHATEVER THE INPUT: true; the input reads as it did. -/
def hashPartsSpec : ChangeSpec := { name := "hashParts", fn := fun _ => fun
  | [d1, d2, d3] => { results := [.lit (.bool true)], args := [d1, d2, d3] }
  | _ => none }
def hashPartsRow : OpenClaim := { program := "ytnnkckijpikhlaa", sum := "407c44a78a7c1c0afb375b19d597dae2c38bd42eabf97158f624a3a4be28e622", func := "rundle/rundlelaw05.HashParts", spec := "hashParts", apart := false }
def HashPartsSaid : Prop := hashPartsRow.holds Try.pinned (OpenSpec.ofChange hashPartsSpec)

/-- ITS FALSE NEIGHBOUR: 'it returns false'. Refute it at one input. -/
def hashPartsWrong : ChangeSpec := { name := "hashParts", fn := fun _ => fun
  | [d1, d2, d3] => { results := [.lit (.bool false)], args := [d1, d2, d3] }
  | _ => none }
def HashPartsWrongFalsely : Prop := hashPartsRow.holds Try.pinned (OpenSpec.ofChange hashPartsWrong)

/-- 'rundlelaw05.HashUnlike': WHATEVER THE INPUT: true; the input reads as it did. -/
def hashUnlikeSpec : ChangeSpec := { name := "hashUnlike", fn := fun _ => fun
  | [d1, d2, d3] => { results := [.lit (.bool true)], args := [d1, d2, d3] }
  | _ => none }
def hashUnlikeRow : OpenClaim := { program := "ytnnkckijpikhlaa", sum := "407c44a78a7c1c0afb375b19d597dae2c38bd42eabf97158f624a3a4be28e622", func := "rundle/rundlelaw05.HashUnlike", spec := "hashUnlike", apart := false }
def HashUnlikeSaid : Prop := hashUnlikeRow.holds Try.pinned (OpenSpec.ofChange hashUnlikeSpec)

/-- ITS FALSE NEIGHBOUR: 'it returns false'. Refute it at one input. -/
def hashUnlikeWrong : ChangeSpec := { name := "hashUnlike", fn := fun _ => fun
  | [d1, d2, d3] => { results := [.lit (.bool false)], args := [d1, d2, d3] }
  | _ => none }
def HashUnlikeWrongFalsely : Prop := hashUnlikeRow.holds Try.pinned (OpenSpec.ofChange hashUnlikeWrong)

/-- 'rundlelaw05.HashOne': WHATEVER THE INPUT: true; the input reads as it did. -/
def hashOneSpec : ChangeSpec := { name := "hashOne", fn := fun _ => fun
  | [d1, d2, d3] => { results := [.lit (.bool true)], args := [d1, d2, d3] }
  | _ => none }
def hashOneRow : OpenClaim := { program := "ytnnkckijpikhlaa", sum := "407c44a78a7c1c0afb375b19d597dae2c38bd42eabf97158f624a3a4be28e622", func := "rundle/rundlelaw05.HashOne", spec := "hashOne", apart := false }
def HashOneSaid : Prop := hashOneRow.holds Try.pinned (OpenSpec.ofChange hashOneSpec)

/-- ITS FALSE NEIGHBOUR: 'it returns false'. Refute it at one input. -/
def hashOneWrong : ChangeSpec := { name := "hashOne", fn := fun _ => fun
  | [d1, d2, d3] => { results := [.lit (.bool false)], args := [d1, d2, d3] }
  | _ => none }
def HashOneWrongFalsely : Prop := hashOneRow.holds Try.pinned (OpenSpec.ofChange hashOneWrong)

/-- 'rundlelaw11.TagUnlike': WHATEVER THE INPUT: true; the input reads as it did. -/
def tagUnlikeSpec : ChangeSpec := { name := "tagUnlike", fn := fun _ => fun
  | [d1, d2, d3, d4] => { results := [.lit (.bool true)], args := [d1, d2, d3, d4] }
  | _ => none }
def tagUnlikeRow : OpenClaim := { program := "ytnnkckijpikhlaa", sum := "407c44a78a7c1c0afb375b19d597dae2c38bd42eabf97158f624a3a4be28e622", func := "rundle/rundlelaw11.TagUnlike", spec := "tagUnlike", apart := false }
def TagUnlikeSaid : Prop := tagUnlikeRow.holds Try.pinned (OpenSpec.ofChange tagUnlikeSpec)

/-- ITS FALSE NEIGHBOUR: 'it returns false'. Refute it at one input. -/
def tagUnlikeWrong : ChangeSpec := { name := "tagUnlike", fn := fun _ => fun
  | [d1, d2, d3, d4] => { results := [.lit (.bool false)], args := [d1, d2, d3, d4] }
  | _ => none }
def TagUnlikeWrongFalsely : Prop := tagUnlikeRow.holds Try.pinned (OpenSpec.ofChange tagUnlikeWrong)

/-- 'rundlelaw11.TagHandles': WHATEVER THE INPUT: true; the input reads as it did. -/
def tagHandlesSpec : ChangeSpec := { name := "tagHandles", fn := fun _ => fun
  | [d1, d2, d3] => { results := [.lit (.bool true)], args := [d1, d2, d3] }
  | _ => none }
def tagHandlesRow : OpenClaim := { program := "ytnnkckijpikhlaa", sum := "407c44a78a7c1c0afb375b19d597dae2c38bd42eabf97158f624a3a4be28e622", func := "rundle/rundlelaw11.TagHandles", spec := "tagHandles", apart := false }
def TagHandlesSaid : Prop := tagHandlesRow.holds Try.pinned (OpenSpec.ofChange tagHandlesSpec)

/-- ITS FALSE NEIGHBOUR: 'it returns false'. Refute it at one input. -/
def tagHandlesWrong : ChangeSpec := { name := "tagHandles", fn := fun _ => fun
  | [d1, d2, d3] => { results := [.lit (.bool false)], args := [d1, d2, d3] }
  | _ => none }
def TagHandlesWrongFalsely : Prop := tagHandlesRow.holds Try.pinned (OpenSpec.ofChange tagHandlesWrong)

/-- 'rundlelaw11.TagWords': WHATEVER THE INPUT: true; the input reads as it did. -/
def tagWordsSpec : ChangeSpec := { name := "tagWords", fn := fun _ => fun
  | [d1, d2, d3] => { results := [.lit (.bool true)], args := [d1, d2, d3] }
  | _ => none }
def tagWordsRow : OpenClaim := { program := "ytnnkckijpikhlaa", sum := "407c44a78a7c1c0afb375b19d597dae2c38bd42eabf97158f624a3a4be28e622", func := "rundle/rundlelaw11.TagWords", spec := "tagWords", apart := false }
def TagWordsSaid : Prop := tagWordsRow.holds Try.pinned (OpenSpec.ofChange tagWordsSpec)

/-- ITS FALSE NEIGHBOUR: 'it returns false'. Refute it at one input. -/
def tagWordsWrong : ChangeSpec := { name := "tagWords", fn := fun _ => fun
  | [d1, d2, d3] => { results := [.lit (.bool false)], args := [d1, d2, d3] }
  | _ => none }
def TagWordsWrongFalsely : Prop := tagWordsRow.holds Try.pinned (OpenSpec.ofChange tagWordsWrong)

/-- 'rundlelaw11.TagBack': WHATEVER THE INPUT: true; the input reads as it did. -/
def tagBackSpec : ChangeSpec := { name := "tagBack", fn := fun _ => fun
  | [d1, d2, d3] => { results := [.lit (.bool true)], args := [d1, d2, d3] }
  | _ => none }
def tagBackRow : OpenClaim := { program := "ytnnkckijpikhlaa", sum := "407c44a78a7c1c0afb375b19d597dae2c38bd42eabf97158f624a3a4be28e622", func := "rundle/rundlelaw11.TagBack", spec := "tagBack", apart := false }
def TagBackSaid : Prop := tagBackRow.holds Try.pinned (OpenSpec.ofChange tagBackSpec)

/-- ITS FALSE NEIGHBOUR: 'it returns false'. Refute it at one input. -/
def tagBackWrong : ChangeSpec := { name := "tagBack", fn := fun _ => fun
  | [d1, d2, d3] => { results := [.lit (.bool false)], args := [d1, d2, d3] }
  | _ => none }
def TagBackWrongFalsely : Prop := tagBackRow.holds Try.pinned (OpenSpec.ofChange tagBackWrong)

/- THE SECOND FORM. 'bulk': how many values and letters a reading holds, each counted each time it is reached (what is shared counts as often as it is met; a slice's spare places count too). A statement '..UptoSaid' is the law's where the arguments, and the package variables that the reading takes, are together of bulk at most 1048576: NARROWER than '..Said'. Prove '..Said' where nothing that the law and all that it calls make is longer than what came in: it says more and counts as full. Else prove '..UptoSaid'. A law counts once. -/
mutual
def uptoBulk {H : Type} : DataW H → Nat
  | .lit (.string bytes) => bytes.length + 1
  | .lit _ => 1
  | .nil => 1
  | .ptr d => uptoBulk d + 1
  | .slice elems spare => uptoBulkAll elems + uptoBulkAll spare + 1
  | .agg parts => uptoBulkAll parts + 1
  | .iface _ d => uptoBulk d + 1
  | .map entries => uptoBulkEntries entries + 1
  | .held _ => 1
def uptoBulkAll {H : Type} : List (DataW H) → Nat
  | [] => 0
  | d :: r => uptoBulk d + uptoBulkAll r
def uptoBulkEntries {H : Type} : List (Lit × DataW H) → Nat
  | [] => 0
  | x :: r => uptoBulkEntry x + uptoBulkEntries r
def uptoBulkEntry {H : Type} : Lit × DataW H → Nat
  | (.string bytes, d) => bytes.length + uptoBulk d + 1
  | (_, d) => uptoBulk d + 1
 end
def uptoSmall : (H : Type) → List (DataW H) → Bool := fun _ ds => decide (uptoBulkAll ds ≤ 1048576)
def OpenSpec.upto (s : _root_.Go.ChangeSpec) : _root_.Go.OpenSpec := { _root_.Go.OpenSpec.ofChange s with cond := some uptoSmall }

/-- 'rundlelaw07.PaceBounds', WHERE WHAT IT READS IS OF BULK AT MOST 1048576: true; the input reads as it did. -/
def paceBoundsUptoRow : OpenClaim := { program := "ytnnkckijpikhlaa", sum := "407c44a78a7c1c0afb375b19d597dae2c38bd42eabf97158f624a3a4be28e622", func := "rundle/rundlelaw07.PaceBounds", spec := "paceBounds", apart := false, narrowed := true }
def PaceBoundsUptoSaid : Prop := paceBoundsUptoRow.holds Try.pinned (OpenSpec.upto paceBoundsSpec)

/-- 'rundlelaw07.PaceSettles', WHERE WHAT IT READS IS OF BULK AT MOST 1048576: true; the input reads as it did. -/
def paceSettlesUptoRow : OpenClaim := { program := "ytnnkckijpikhlaa", sum := "407c44a78a7c1c0afb375b19d597dae2c38bd42eabf97158f624a3a4be28e622", func := "rundle/rundlelaw07.PaceSettles", spec := "paceSettles", apart := false, narrowed := true }
def PaceSettlesUptoSaid : Prop := paceSettlesUptoRow.holds Try.pinned (OpenSpec.upto paceSettlesSpec)

/-- 'rundlelaw07.PacePlays', WHERE WHAT IT READS IS OF BULK AT MOST 1048576: true; the input reads as it did. -/
def pacePlaysUptoRow : OpenClaim := { program := "ytnnkckijpikhlaa", sum := "407c44a78a7c1c0afb375b19d597dae2c38bd42eabf97158f624a3a4be28e622", func := "rundle/rundlelaw07.PacePlays", spec := "pacePlays", apart := false, narrowed := true }
def PacePlaysUptoSaid : Prop := pacePlaysUptoRow.holds Try.pinned (OpenSpec.upto pacePlaysSpec)

/-- 'rundlelaw07.PaceApart', WHERE WHAT IT READS IS OF BULK AT MOST 1048576: true; the input reads as it did. -/
def paceApartUptoRow : OpenClaim := { program := "ytnnkckijpikhlaa", sum := "407c44a78a7c1c0afb375b19d597dae2c38bd42eabf97158f624a3a4be28e622", func := "rundle/rundlelaw07.PaceApart", spec := "paceApart", apart := false, narrowed := true }
def PaceApartUptoSaid : Prop := paceApartUptoRow.holds Try.pinned (OpenSpec.upto paceApartSpec)

/-- 'rundlelaw05.HashPlays', WHERE WHAT IT READS IS OF BULK AT MOST 1048576: true; the input reads as it did. -/
def hashPlaysUptoRow : OpenClaim := { program := "ytnnkckijpikhlaa", sum := "407c44a78a7c1c0afb375b19d597dae2c38bd42eabf97158f624a3a4be28e622", func := "rundle/rundlelaw05.HashPlays", spec := "hashPlays", apart := false, narrowed := true }
def HashPlaysUptoSaid : Prop := hashPlaysUptoRow.holds Try.pinned (OpenSpec.upto hashPlaysSpec)

/-- 'rundlelaw05.HashParts', WHERE WHAT IT READS IS OF BULK AT MOST 1048576: true; the input reads as it did. -/
def hashPartsUptoRow : OpenClaim := { program := "ytnnkckijpikhlaa", sum := "407c44a78a7c1c0afb375b19d597dae2c38bd42eabf97158f624a3a4be28e622", func := "rundle/rundlelaw05.HashParts", spec := "hashParts", apart := false, narrowed := true }
def HashPartsUptoSaid : Prop := hashPartsUptoRow.holds Try.pinned (OpenSpec.upto hashPartsSpec)

/-- 'rundlelaw05.HashUnlike', WHERE WHAT IT READS IS OF BULK AT MOST 1048576: true; the input reads as it did. -/
def hashUnlikeUptoRow : OpenClaim := { program := "ytnnkckijpikhlaa", sum := "407c44a78a7c1c0afb375b19d597dae2c38bd42eabf97158f624a3a4be28e622", func := "rundle/rundlelaw05.HashUnlike", spec := "hashUnlike", apart := false, narrowed := true }
def HashUnlikeUptoSaid : Prop := hashUnlikeUptoRow.holds Try.pinned (OpenSpec.upto hashUnlikeSpec)

/-- 'rundlelaw05.HashOne', WHERE WHAT IT READS IS OF BULK AT MOST 1048576: true; the input reads as it did. -/
def hashOneUptoRow : OpenClaim := { program := "ytnnkckijpikhlaa", sum := "407c44a78a7c1c0afb375b19d597dae2c38bd42eabf97158f624a3a4be28e622", func := "rundle/rundlelaw05.HashOne", spec := "hashOne", apart := false, narrowed := true }
def HashOneUptoSaid : Prop := hashOneUptoRow.holds Try.pinned (OpenSpec.upto hashOneSpec)

/-- 'rundlelaw11.TagUnlike', WHERE WHAT IT READS IS OF BULK AT MOST 1048576: true; the input reads as it did. -/
def tagUnlikeUptoRow : OpenClaim := { program := "ytnnkckijpikhlaa", sum := "407c44a78a7c1c0afb375b19d597dae2c38bd42eabf97158f624a3a4be28e622", func := "rundle/rundlelaw11.TagUnlike", spec := "tagUnlike", apart := false, narrowed := true }
def TagUnlikeUptoSaid : Prop := tagUnlikeUptoRow.holds Try.pinned (OpenSpec.upto tagUnlikeSpec)

/-- 'rundlelaw11.TagHandles', WHERE WHAT IT READS IS OF BULK AT MOST 1048576: true; the input reads as it did. -/
def tagHandlesUptoRow : OpenClaim := { program := "ytnnkckijpikhlaa", sum := "407c44a78a7c1c0afb375b19d597dae2c38bd42eabf97158f624a3a4be28e622", func := "rundle/rundlelaw11.TagHandles", spec := "tagHandles", apart := false, narrowed := true }
def TagHandlesUptoSaid : Prop := tagHandlesUptoRow.holds Try.pinned (OpenSpec.upto tagHandlesSpec)

/-- 'rundlelaw11.TagWords', WHERE WHAT IT READS IS OF BULK AT MOST 1048576: true; the input reads as it did. -/
def tagWordsUptoRow : OpenClaim := { program := "ytnnkckijpikhlaa", sum := "407c44a78a7c1c0afb375b19d597dae2c38bd42eabf97158f624a3a4be28e622", func := "rundle/rundlelaw11.TagWords", spec := "tagWords", apart := false, narrowed := true }
def TagWordsUptoSaid : Prop := tagWordsUptoRow.holds Try.pinned (OpenSpec.upto tagWordsSpec)

/-- 'rundlelaw11.TagBack', WHERE WHAT IT READS IS OF BULK AT MOST 1048576: true; the input reads as it did. -/
def tagBackUptoRow : OpenClaim := { program := "ytnnkckijpikhlaa", sum := "407c44a78a7c1c0afb375b19d597dae2c38bd42eabf97158f624a3a4be28e622", func := "rundle/rundlelaw11.TagBack", spec := "tagBack", apart := false, narrowed := true }
def TagBackUptoSaid : Prop := tagBackUptoRow.holds Try.pinned (OpenSpec.upto tagBackSpec)

end Rows
end Go.Proofs.Ytnnkckijpikhlaa
