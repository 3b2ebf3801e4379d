-- written by a program of this session (the print, turned)
import Derived.Test.YtoaacdjcjicemaaProg
import Derived.Below
import Derived.Deep.Draws
import Derived.Deep.AppendLies
import Derived.Maps.AppendAt
import Derived.OwnWalk
import Derived.Laws.BytesArg
import Derived.Laws.MakeOwn
import Derived.Laws.OwnMore
import Derived.Deep.OwnRows
import Derived.Tactics
import Derived.Lib.ConvBytes
import Derived.Laws.Slices
import Derived.WalkKit
import Derived.KernelRfl
import Derived.RowKit3
import Derived.Deep.LoopGhost
import Derived.Deep.QuietTactic
import Derived.BigQuiet
import Derived.WideLaws
import Derived.Deep.DeepCutAuto
import Derived.Deep.CutBlock
import Derived.Deep.RegionHeld3
import Derived.Laws.Rows
import Derived.Lib.AppendStr
import Derived.ArgAppend
import Derived.Laws.IdiomCopy
import Derived.OrdersHeld
import Derived.Laws.BitsLemmas
import Derived.RowKit
import Derived.Test.YtoaacdjcjicemaaWWords
import Derived.Test.YtoaacdjcjicemaaWLast
import Derived.Test.YtoaacdjcjicemaaWTab
import Derived.Test.YtoaacdjcjicemaaWFour
import Derived.Test.YtoaacdjcjicemaaWQPut
import Derived.Test.YtoaacdjcjicemaaWApart
import Derived.Test.YtoaacdjcjicemaaWArr
import Derived.Test.YtoaacdjcjicemaaWZeros
import Derived.Test.YtoaacdjcjicemaaWFoot
import Derived.Test.YtoaacdjcjicemaaWKept
import Derived.Test.YtoaacdjcjicemaaWShare
import Derived.Test.YtoaacdjcjicemaaWN
import Derived.Test.YtoaacdjcjicemaaWFootNe
import Derived.Test.YtoaacdjcjicemaaWAt
import Derived.Test.YtoaacdjcjicemaaWEqStruct
import Derived.Test.YtoaacdjcjicemaaWRepsOne
import Derived.Test.YtoaacdjcjicemaaWInv
import Derived.Test.YtoaacdjcjicemaaWInvWords
import Derived.Test.YtoaacdjcjicemaaWGuard
import Derived.Test.YtoaacdjcjicemaaWNEv
import Derived.Test.YtoaacdjcjicemaaWMore
import Derived.Test.YtoaacdjcjicemaaWPk
import Derived.Test.YtoaacdjcjicemaaWAl
namespace Go.Proofs.Ytoaacdjcjicemaa.PPlanRelinks
open Go.RowKit Go.Proofs.YtoaacdjcjicemaaW.PrintWords Go.Proofs.YtoaacdjcjicemaaW.PrintLast Go.Proofs.YtoaacdjcjicemaaW.PrintMore
attribute [local go_sem] cell_self cell_there leq_str geq_str gtr_str max2_str max2_int min2_int max_two min_two max_three min_three max_four min_four   -- for this text's walks alone
set_option linter.unusedVariables false
set_option linter.unusedSimpArgs false
def errW : Option Int → Value
 | none => .nilIface
 | some c => .iface 0 (.int .i64 c)
theorem errW_none : errW none = .nilIface := rfl
theorem errW_some (c : Int) : errW (some c) = .iface 0 (.int .i64 c) := rfl
theorem info3 : (Try.prog.info? 3).map (fun i => (i.zero, i.size, i.bytes)) = some (some (.int .i64 0), 1, 8) := by kernel_rfl
theorem info4 : (Try.prog.info? 4).map (fun i => (i.zero, i.size, i.bytes)) = some (some (.bool false), 1, 1) := by kernel_rfl
theorem info9 : (Try.prog.info? 9).map (fun i => (i.zero, i.size, i.bytes)) = some (some (.string ⟨#[]⟩), 1, 16) := by kernel_rfl
theorem info77 : (Try.prog.info? 77).map (fun i => (i.zero, i.size, i.bytes)) = some (some (.agg #[(.int .i64 0), (.bool false)]), 2, 16) := by kernel_rfl
theorem info83 : (Try.prog.info? 83).map (fun i => (i.zero, i.size, i.bytes)) = some (some (.agg #[(.int .i64 0), (.string ⟨#[]⟩), (.int .i64 0), (.slice none 0 0), (.slice none 0 0), (.int .i64 0), (.int .i64 0), (.int .i64 0), (.string ⟨#[]⟩), (.string ⟨#[]⟩), (.bool false), (.bool false), (.slice none 0 0), (.slice none 0 0), (.slice none 0 0), (.slice none 0 0)]), 16, 248) := by kernel_rfl
theorem info85 : (Try.prog.info? 85).map (fun i => (i.zero, i.size, i.bytes)) = some (some (.agg #[(.int .i64 0), (.int .i64 0), (.int .i64 0)]), 3, 24) := by kernel_rfl
theorem info92 : (Try.prog.info? 92).map (fun i => (i.zero, i.size, i.bytes)) = some (some (.agg #[(.int .i64 0), (.slice none 0 0), (.slice none 0 0), (.bool false)]), 4, 64) := by kernel_rfl
theorem info114 : (Try.prog.info? 114).map (fun i => (i.zero, i.size, i.bytes)) = some (some (.agg #[(.string ⟨#[]⟩), (.string ⟨#[]⟩), (.bool false)]), 3, 40) := by kernel_rfl
-- the values' own types
/-! #### struct type 114 -/
structure S114 where
 f0 : ByteArray
 f1 : ByteArray
 f2 : Bool
def z114 : S114 := ⟨(⟨#[]⟩ : ByteArray), (⟨#[]⟩ : ByteArray), false⟩
def k114 : Kd S114 := Kd.iso (Kd.pair Kd.string (Kd.pair Kd.string Kd.bool)) (fun x : S114 => (x.f0, x.f1, x.f2))
theorem k114_open {w : World} {x : S114} {cs : List Value} (h : k114.K w x cs) : cs = [.string x.f0, .string x.f1, .bool x.f2] := by
 obtain ⟨_, _, rfl, rfl, ⟨_, _, rfl, rfl, rfl⟩⟩ := h
 exact rfl
theorem k114_mkM (w : World) (base : Nat) (ok : Nat → Prop) (x : S114)  : k114.M w base ok x [.string x.f0, .string x.f1, .bool x.f2] := ⟨[.string x.f0], [.string x.f1, .bool x.f2], rfl, rfl, ⟨[.string x.f1], [.bool x.f2], rfl, rfl, rfl⟩⟩
def rd_T114 (xs : List S114) (i : Int) : S114 := xs.getD i.toNat z114
theorem at_T114 {w : World} {A : Option Addr} {n : Nat} {xs : List S114} (h : Kd.C k114 w A n xs) (i : Int) (h0 : 0 ≤ i) (h1 : i < n) : ∃ ad , A = some ad ∧ w.cell? (ad.add (i.toNat * 3)) = some (.string (rd_T114 xs i).f0) ∧ w.cell? ⟨(ad.add (i.toNat * 3)).block, (ad.add (i.toNat * 3)).off + 1, none⟩ = some (.string (rd_T114 xs i).f1) ∧ w.cell? ⟨(ad.add (i.toNat * 3)).block, (ad.add (i.toNat * 3)).off + 2, none⟩ = some (.bool (rd_T114 xs i).f2) := by
 obtain ⟨ad, c, e, _, hK, hc0⟩ := Kd.C_get h z114 i h0 h1
 have hc : ∀ j u, c[j]? = some u → w.cell? (ad.add (i.toNat * 3 + j)) = some u := hc0
 obtain rfl := k114_open hK
 exact ⟨ad, e, hc 0 _ rfl, by rw [← add_field _ _ 1 (by omega)]; exact hc 1 _ rfl, by rw [← add_field _ _ 2 (by omega)]; exact hc 2 _ rfl⟩
theorem at_T114b {w w1 : World} {A : Option Addr} {n : Nat} {xs : List S114} (h : Kd.C k114 w A n xs) (hb : Below w.heap.size w w1) (i : Int) (h0 : 0 ≤ i) (h1 : i < n) : ∃ ad , A = some ad ∧ w1.cell? (ad.add (i.toNat * 3)) = some (.string (rd_T114 xs i).f0) ∧ w1.cell? ⟨(ad.add (i.toNat * 3)).block, (ad.add (i.toNat * 3)).off + 1, none⟩ = some (.string (rd_T114 xs i).f1) ∧ w1.cell? ⟨(ad.add (i.toNat * 3)).block, (ad.add (i.toNat * 3)).off + 2, none⟩ = some (.bool (rd_T114 xs i).f2) := by
 obtain ⟨ad, q0, q1, q2, q3⟩ := at_T114 h i h0 h1
 exact ⟨ad, q0, (hb.cell (bL w _ q1)).trans q1, (hb.cell (bL w _ q2)).trans q2, (hb.cell (bL w _ q3)).trans q3⟩
/-! #### struct type 108 -/
structure S108 where
 f0 : Int
 f1 : Int
 f2 : Int
 f3 : Int
 f4 : Bool
 f5 : Bool
def z108 : S108 := ⟨(0 : Int), (0 : Int), (0 : Int), (0 : Int), false, false⟩
def k108 : Kd S108 := Kd.iso (Kd.pair (Kd.int .u8) (Kd.pair (Kd.int .u8) (Kd.pair (Kd.int .u8) (Kd.pair (Kd.int .u8) (Kd.pair Kd.bool Kd.bool))))) (fun x : S108 => (x.f0, x.f1, x.f2, x.f3, x.f4, x.f5))
theorem k108_open {w : World} {x : S108} {cs : List Value} (h : k108.K w x cs) : cs = [.int .u8 x.f0, .int .u8 x.f1, .int .u8 x.f2, .int .u8 x.f3, .bool x.f4, .bool x.f5] := by
 obtain ⟨_, _, rfl, rfl, ⟨_, _, rfl, rfl, ⟨_, _, rfl, rfl, ⟨_, _, rfl, rfl, ⟨_, _, rfl, rfl, rfl⟩⟩⟩⟩⟩ := h
 exact rfl
theorem k108_mk (w : World) (x : S108)  : k108.K w x [.int .u8 x.f0, .int .u8 x.f1, .int .u8 x.f2, .int .u8 x.f3, .bool x.f4, .bool x.f5] := ⟨[.int .u8 x.f0], [.int .u8 x.f1, .int .u8 x.f2, .int .u8 x.f3, .bool x.f4, .bool x.f5], rfl, rfl, ⟨[.int .u8 x.f1], [.int .u8 x.f2, .int .u8 x.f3, .bool x.f4, .bool x.f5], rfl, rfl, ⟨[.int .u8 x.f2], [.int .u8 x.f3, .bool x.f4, .bool x.f5], rfl, rfl, ⟨[.int .u8 x.f3], [.bool x.f4, .bool x.f5], rfl, rfl, ⟨[.bool x.f4], [.bool x.f5], rfl, rfl, rfl⟩⟩⟩⟩⟩
theorem k108_mkM (w : World) (base : Nat) (ok : Nat → Prop) (x : S108)  : k108.M w base ok x [.int .u8 x.f0, .int .u8 x.f1, .int .u8 x.f2, .int .u8 x.f3, .bool x.f4, .bool x.f5] := ⟨[.int .u8 x.f0], [.int .u8 x.f1, .int .u8 x.f2, .int .u8 x.f3, .bool x.f4, .bool x.f5], rfl, rfl, ⟨[.int .u8 x.f1], [.int .u8 x.f2, .int .u8 x.f3, .bool x.f4, .bool x.f5], rfl, rfl, ⟨[.int .u8 x.f2], [.int .u8 x.f3, .bool x.f4, .bool x.f5], rfl, rfl, ⟨[.int .u8 x.f3], [.bool x.f4, .bool x.f5], rfl, rfl, ⟨[.bool x.f4], [.bool x.f5], rfl, rfl, rfl⟩⟩⟩⟩⟩
def rd_T108 (xs : List S108) (i : Int) : S108 := xs.getD i.toNat z108
theorem at_T108 {w : World} {A : Option Addr} {n : Nat} {xs : List S108} (h : Kd.C k108 w A n xs) (i : Int) (h0 : 0 ≤ i) (h1 : i < n) : ∃ ad , A = some ad ∧ w.cell? (ad.add (i.toNat * 6)) = some (.int .u8 (rd_T108 xs i).f0) ∧ w.cell? ⟨(ad.add (i.toNat * 6)).block, (ad.add (i.toNat * 6)).off + 1, none⟩ = some (.int .u8 (rd_T108 xs i).f1) ∧ w.cell? ⟨(ad.add (i.toNat * 6)).block, (ad.add (i.toNat * 6)).off + 2, none⟩ = some (.int .u8 (rd_T108 xs i).f2) ∧ w.cell? ⟨(ad.add (i.toNat * 6)).block, (ad.add (i.toNat * 6)).off + 3, none⟩ = some (.int .u8 (rd_T108 xs i).f3) ∧ w.cell? ⟨(ad.add (i.toNat * 6)).block, (ad.add (i.toNat * 6)).off + 4, none⟩ = some (.bool (rd_T108 xs i).f4) ∧ w.cell? ⟨(ad.add (i.toNat * 6)).block, (ad.add (i.toNat * 6)).off + 5, none⟩ = some (.bool (rd_T108 xs i).f5) := by
 obtain ⟨ad, c, e, _, hK, hc0⟩ := Kd.C_get h z108 i h0 h1
 have hc : ∀ j u, c[j]? = some u → w.cell? (ad.add (i.toNat * 6 + j)) = some u := hc0
 obtain rfl := k108_open hK
 exact ⟨ad, e, hc 0 _ rfl, by rw [← add_field _ _ 1 (by omega)]; exact hc 1 _ rfl, by rw [← add_field _ _ 2 (by omega)]; exact hc 2 _ rfl, by rw [← add_field _ _ 3 (by omega)]; exact hc 3 _ rfl, by rw [← add_field _ _ 4 (by omega)]; exact hc 4 _ rfl, by rw [← add_field _ _ 5 (by omega)]; exact hc 5 _ rfl⟩
theorem at_T108b {w w1 : World} {A : Option Addr} {n : Nat} {xs : List S108} (h : Kd.C k108 w A n xs) (hb : Below w.heap.size w w1) (i : Int) (h0 : 0 ≤ i) (h1 : i < n) : ∃ ad , A = some ad ∧ w1.cell? (ad.add (i.toNat * 6)) = some (.int .u8 (rd_T108 xs i).f0) ∧ w1.cell? ⟨(ad.add (i.toNat * 6)).block, (ad.add (i.toNat * 6)).off + 1, none⟩ = some (.int .u8 (rd_T108 xs i).f1) ∧ w1.cell? ⟨(ad.add (i.toNat * 6)).block, (ad.add (i.toNat * 6)).off + 2, none⟩ = some (.int .u8 (rd_T108 xs i).f2) ∧ w1.cell? ⟨(ad.add (i.toNat * 6)).block, (ad.add (i.toNat * 6)).off + 3, none⟩ = some (.int .u8 (rd_T108 xs i).f3) ∧ w1.cell? ⟨(ad.add (i.toNat * 6)).block, (ad.add (i.toNat * 6)).off + 4, none⟩ = some (.bool (rd_T108 xs i).f4) ∧ w1.cell? ⟨(ad.add (i.toNat * 6)).block, (ad.add (i.toNat * 6)).off + 5, none⟩ = some (.bool (rd_T108 xs i).f5) := by
 obtain ⟨ad, q0, q1, q2, q3, q4, q5, q6⟩ := at_T108 h i h0 h1
 exact ⟨ad, q0, (hb.cell (bL w _ q1)).trans q1, (hb.cell (bL w _ q2)).trans q2, (hb.cell (bL w _ q3)).trans q3, (hb.cell (bL w _ q4)).trans q4, (hb.cell (bL w _ q5)).trans q5, (hb.cell (bL w _ q6)).trans q6⟩
/-! #### struct type 81 -/
structure S81 where
 f0 : ByteArray
 f1 : Int
 f2 : (List Int)
def z81 : S81 := ⟨(⟨#[]⟩ : ByteArray), (0 : Int), ([] : List Int)⟩
def k81 : Kd S81 := Kd.iso (Kd.pair Kd.string (Kd.pair (Kd.int .i64) (Kd.slice 3 (Kd.int .i64)))) (fun x : S81 => (x.f0, x.f1, x.f2))
theorem k81_open {w : World} {x : S81} {cs : List Value} (h : k81.K w x cs) : ∃ A2 c2, cs = [.string x.f0, .int .i64 x.f1, .slice A2 x.f2.length c2] ∧ x.f2.length ≤ c2 ∧ (Kd.int .i64).C w A2 x.f2.length x.f2 := by
 obtain ⟨_, _, rfl, rfl, ⟨_, _, rfl, rfl, ⟨A2, c2, rfl, l2, g2⟩⟩⟩ := h
 exact ⟨A2, c2, rfl, l2, g2⟩
theorem k81_mkM (w : World) (base : Nat) (ok : Nat → Prop) (x : S81) {v2 : Value} (g2 : (Kd.int .i64).R 3 w base ok v2 x.f2) : k81.M w base ok x [.string x.f0, .int .i64 x.f1, v2] := ⟨[.string x.f0], [.int .i64 x.f1, v2], rfl, rfl, ⟨[.int .i64 x.f1], [v2], rfl, rfl, ⟨v2, rfl, g2⟩⟩⟩
/-! #### struct type 32 -/
structure S32 where
 f0 : ByteArray
 f1 : ByteArray
 f2 : Bool
def z32 : S32 := ⟨(⟨#[]⟩ : ByteArray), (⟨#[]⟩ : ByteArray), false⟩
def k32 : Kd S32 := Kd.iso (Kd.pair Kd.string (Kd.pair Kd.string Kd.bool)) (fun x : S32 => (x.f0, x.f1, x.f2))
theorem k32_open {w : World} {x : S32} {cs : List Value} (h : k32.K w x cs) : cs = [.string x.f0, .string x.f1, .bool x.f2] := by
 obtain ⟨_, _, rfl, rfl, ⟨_, _, rfl, rfl, rfl⟩⟩ := h
 exact rfl
theorem k32_mkM (w : World) (base : Nat) (ok : Nat → Prop) (x : S32)  : k32.M w base ok x [.string x.f0, .string x.f1, .bool x.f2] := ⟨[.string x.f0], [.string x.f1, .bool x.f2], rfl, rfl, ⟨[.string x.f1], [.bool x.f2], rfl, rfl, rfl⟩⟩
/-! #### struct type 37 -/
structure S37 where
 f0 : Int
 f1 : Int
 f2 : S32
 f3 : Bool
 f4 : (List ByteArray)
 f5 : (List ByteArray)
 f6 : (List Bool)
 f7 : (List Int)
def z37 : S37 := ⟨(0 : Int), (0 : Int), z32, false, ([] : List ByteArray), ([] : List ByteArray), ([] : List Bool), ([] : List Int)⟩
def k37 : Kd S37 := Kd.iso (Kd.pair (Kd.int .i64) (Kd.pair (Kd.int .i64) (Kd.pair k32 (Kd.pair Kd.bool (Kd.pair (Kd.slice 9 Kd.string) (Kd.pair (Kd.slice 9 Kd.string) (Kd.pair (Kd.slice 4 Kd.bool) (Kd.slice 3 (Kd.int .i64))))))))) (fun x : S37 => (x.f0, x.f1, x.f2, x.f3, x.f4, x.f5, x.f6, x.f7))
theorem k37_open {w : World} {x : S37} {cs : List Value} (h : k37.K w x cs) : ∃ A6 c6 A7 c7 A8 c8 A9 c9, cs = [.int .i64 x.f0, .int .i64 x.f1, .string x.f2.f0, .string x.f2.f1, .bool x.f2.f2, .bool x.f3, .slice A6 x.f4.length c6, .slice A7 x.f5.length c7, .slice A8 x.f6.length c8, .slice A9 x.f7.length c9] ∧ x.f4.length ≤ c6 ∧ Kd.string.C w A6 x.f4.length x.f4 ∧ x.f5.length ≤ c7 ∧ Kd.string.C w A7 x.f5.length x.f5 ∧ x.f6.length ≤ c8 ∧ Kd.bool.C w A8 x.f6.length x.f6 ∧ x.f7.length ≤ c9 ∧ (Kd.int .i64).C w A9 x.f7.length x.f7 := by
 obtain ⟨_, _, rfl, rfl, ⟨_, _, rfl, rfl, ⟨_, _, rfl, s2, ⟨_, _, rfl, rfl, ⟨_, _, rfl, ⟨A6, c6, rfl, l6, g6⟩, ⟨_, _, rfl, ⟨A7, c7, rfl, l7, g7⟩, ⟨_, _, rfl, ⟨A8, c8, rfl, l8, g8⟩, ⟨A9, c9, rfl, l9, g9⟩⟩⟩⟩⟩⟩⟩⟩ := h
 obtain rfl := k32_open s2
 exact ⟨A6, c6, A7, c7, A8, c8, A9, c9, rfl, l6, g6, l7, g7, l8, g8, l9, g9⟩
theorem k37_mkM (w : World) (base : Nat) (ok : Nat → Prop) (x : S37) {v6 : Value} (g6 : Kd.string.R 9 w base ok v6 x.f4) {v7 : Value} (g7 : Kd.string.R 9 w base ok v7 x.f5) {v8 : Value} (g8 : Kd.bool.R 4 w base ok v8 x.f6) {v9 : Value} (g9 : (Kd.int .i64).R 3 w base ok v9 x.f7) : k37.M w base ok x [.int .i64 x.f0, .int .i64 x.f1, .string x.f2.f0, .string x.f2.f1, .bool x.f2.f2, .bool x.f3, v6, v7, v8, v9] := ⟨[.int .i64 x.f0], [.int .i64 x.f1, .string x.f2.f0, .string x.f2.f1, .bool x.f2.f2, .bool x.f3, v6, v7, v8, v9], rfl, rfl, ⟨[.int .i64 x.f1], [.string x.f2.f0, .string x.f2.f1, .bool x.f2.f2, .bool x.f3, v6, v7, v8, v9], rfl, rfl, ⟨[.string x.f2.f0, .string x.f2.f1, .bool x.f2.f2], [.bool x.f3, v6, v7, v8, v9], rfl, (k32_mkM w base ok x.f2 ), ⟨[.bool x.f3], [v6, v7, v8, v9], rfl, rfl, ⟨[v6], [v7, v8, v9], rfl, ⟨v6, rfl, g6⟩, ⟨[v7], [v8, v9], rfl, ⟨v7, rfl, g7⟩, ⟨[v8], [v9], rfl, ⟨v8, rfl, g8⟩, ⟨v9, rfl, g9⟩⟩⟩⟩⟩⟩⟩⟩
/-! #### struct type 83 -/
structure S83 where
 f0 : Int
 f1 : S81
 f2 : (List Int)
 f3 : Int
 f4 : S37
def z83 : S83 := ⟨(0 : Int), z81, ([] : List Int), (0 : Int), z37⟩
def k83 : Kd S83 := Kd.iso (Kd.pair (Kd.int .i64) (Kd.pair k81 (Kd.pair (Kd.slice 3 (Kd.int .i64)) (Kd.pair (Kd.int .i64) k37)))) (fun x : S83 => (x.f0, x.f1, x.f2, x.f3, x.f4))
theorem k83_open {w : World} {x : S83} {cs : List Value} (h : k83.K w x cs) : ∃ A3 c3 A4 c4 A12 c12 A13 c13 A14 c14 A15 c15, cs = [.int .i64 x.f0, .string x.f1.f0, .int .i64 x.f1.f1, .slice A3 x.f1.f2.length c3, .slice A4 x.f2.length c4, .int .i64 x.f3, .int .i64 x.f4.f0, .int .i64 x.f4.f1, .string x.f4.f2.f0, .string x.f4.f2.f1, .bool x.f4.f2.f2, .bool x.f4.f3, .slice A12 x.f4.f4.length c12, .slice A13 x.f4.f5.length c13, .slice A14 x.f4.f6.length c14, .slice A15 x.f4.f7.length c15] ∧ x.f1.f2.length ≤ c3 ∧ (Kd.int .i64).C w A3 x.f1.f2.length x.f1.f2 ∧ x.f2.length ≤ c4 ∧ (Kd.int .i64).C w A4 x.f2.length x.f2 ∧ x.f4.f4.length ≤ c12 ∧ Kd.string.C w A12 x.f4.f4.length x.f4.f4 ∧ x.f4.f5.length ≤ c13 ∧ Kd.string.C w A13 x.f4.f5.length x.f4.f5 ∧ x.f4.f6.length ≤ c14 ∧ Kd.bool.C w A14 x.f4.f6.length x.f4.f6 ∧ x.f4.f7.length ≤ c15 ∧ (Kd.int .i64).C w A15 x.f4.f7.length x.f4.f7 := by
 obtain ⟨_, _, rfl, rfl, ⟨_, _, rfl, s1, ⟨_, _, rfl, ⟨A4, c4, rfl, l4, g4⟩, ⟨_, _, rfl, rfl, s6⟩⟩⟩⟩ := h
 obtain ⟨A3, c3, rfl, l3, g3⟩ := k81_open s1
 obtain ⟨A12, c12, A13, c13, A14, c14, A15, c15, rfl, l12, g12, l13, g13, l14, g14, l15, g15⟩ := k37_open s6
 exact ⟨A3, c3, A4, c4, A12, c12, A13, c13, A14, c14, A15, c15, rfl, l3, g3, l4, g4, l12, g12, l13, g13, l14, g14, l15, g15⟩
theorem k83_mkM (w : World) (base : Nat) (ok : Nat → Prop) (x : S83) {v3 : Value} (g3 : (Kd.int .i64).R 3 w base ok v3 x.f1.f2) {v4 : Value} (g4 : (Kd.int .i64).R 3 w base ok v4 x.f2) {v12 : Value} (g12 : Kd.string.R 9 w base ok v12 x.f4.f4) {v13 : Value} (g13 : Kd.string.R 9 w base ok v13 x.f4.f5) {v14 : Value} (g14 : Kd.bool.R 4 w base ok v14 x.f4.f6) {v15 : Value} (g15 : (Kd.int .i64).R 3 w base ok v15 x.f4.f7) : k83.M w base ok x [.int .i64 x.f0, .string x.f1.f0, .int .i64 x.f1.f1, v3, v4, .int .i64 x.f3, .int .i64 x.f4.f0, .int .i64 x.f4.f1, .string x.f4.f2.f0, .string x.f4.f2.f1, .bool x.f4.f2.f2, .bool x.f4.f3, v12, v13, v14, v15] := ⟨[.int .i64 x.f0], [.string x.f1.f0, .int .i64 x.f1.f1, v3, v4, .int .i64 x.f3, .int .i64 x.f4.f0, .int .i64 x.f4.f1, .string x.f4.f2.f0, .string x.f4.f2.f1, .bool x.f4.f2.f2, .bool x.f4.f3, v12, v13, v14, v15], rfl, rfl, ⟨[.string x.f1.f0, .int .i64 x.f1.f1, v3], [v4, .int .i64 x.f3, .int .i64 x.f4.f0, .int .i64 x.f4.f1, .string x.f4.f2.f0, .string x.f4.f2.f1, .bool x.f4.f2.f2, .bool x.f4.f3, v12, v13, v14, v15], rfl, (k81_mkM w base ok x.f1 g3), ⟨[v4], [.int .i64 x.f3, .int .i64 x.f4.f0, .int .i64 x.f4.f1, .string x.f4.f2.f0, .string x.f4.f2.f1, .bool x.f4.f2.f2, .bool x.f4.f3, v12, v13, v14, v15], rfl, ⟨v4, rfl, g4⟩, ⟨[.int .i64 x.f3], [.int .i64 x.f4.f0, .int .i64 x.f4.f1, .string x.f4.f2.f0, .string x.f4.f2.f1, .bool x.f4.f2.f2, .bool x.f4.f3, v12, v13, v14, v15], rfl, rfl, (k37_mkM w base ok x.f4 g12 g13 g14 g15)⟩⟩⟩⟩
theorem k83_openF {W : World} {ok : Nat → Prop} {x : S83} {cs : List Value} (h : Kd.FK k83 W ok x cs) : ∃ A3 c3 A4 c4 A12 c12 A13 c13 A14 c14 A15 c15, cs = [.int .i64 x.f0, .string x.f1.f0, .int .i64 x.f1.f1, .slice A3 x.f1.f2.length c3, .slice A4 x.f2.length c4, .int .i64 x.f3, .int .i64 x.f4.f0, .int .i64 x.f4.f1, .string x.f4.f2.f0, .string x.f4.f2.f1, .bool x.f4.f2.f2, .bool x.f4.f3, .slice A12 x.f4.f4.length c12, .slice A13 x.f4.f5.length c13, .slice A14 x.f4.f6.length c14, .slice A15 x.f4.f7.length c15] ∧ x.f1.f2.length ≤ c3 ∧ Kd.F (Kd.int .i64) W ok A3 x.f1.f2.length x.f1.f2 ∧ x.f2.length ≤ c4 ∧ Kd.F (Kd.int .i64) W ok A4 x.f2.length x.f2 ∧ x.f4.f4.length ≤ c12 ∧ Kd.F Kd.string W ok A12 x.f4.f4.length x.f4.f4 ∧ x.f4.f5.length ≤ c13 ∧ Kd.F Kd.string W ok A13 x.f4.f5.length x.f4.f5 ∧ x.f4.f6.length ≤ c14 ∧ Kd.F Kd.bool W ok A14 x.f4.f6.length x.f4.f6 ∧ x.f4.f7.length ≤ c15 ∧ Kd.F (Kd.int .i64) W ok A15 x.f4.f7.length x.f4.f7 := by
 obtain ⟨A3, c3, A4, c4, A12, c12, A13, c13, A14, c14, A15, c15, rfl, l3, _, l4, _, l12, _, l13, _, l14, _, l15, _⟩ := k83_open (Kd.FK_now h)
 exact ⟨A3, c3, A4, c4, A12, c12, A13, c13, A14, c14, A15, c15, rfl, l3, (fun W' hW => by obtain ⟨A3_, c3_, A4_, c4_, A12_, c12_, A13_, c13_, A14_, c14_, A15_, c15_, he, l3_, g3_, l4_, g4_, l12_, g12_, l13_, g13_, l14_, g14_, l15_, g15_⟩ := k83_open (h W' hW); injection (Option.some.inj (show some (Value.slice A3 x.f1.f2.length c3) = some (Value.slice A3_ x.f1.f2.length c3_) from congrArg (fun l => l[3]?) he)) with ha_ _ _; rw [ha_]; exact g3_), l4, (fun W' hW => by obtain ⟨A3_, c3_, A4_, c4_, A12_, c12_, A13_, c13_, A14_, c14_, A15_, c15_, he, l3_, g3_, l4_, g4_, l12_, g12_, l13_, g13_, l14_, g14_, l15_, g15_⟩ := k83_open (h W' hW); injection (Option.some.inj (show some (Value.slice A4 x.f2.length c4) = some (Value.slice A4_ x.f2.length c4_) from congrArg (fun l => l[4]?) he)) with ha_ _ _; rw [ha_]; exact g4_), l12, (fun W' hW => by obtain ⟨A3_, c3_, A4_, c4_, A12_, c12_, A13_, c13_, A14_, c14_, A15_, c15_, he, l3_, g3_, l4_, g4_, l12_, g12_, l13_, g13_, l14_, g14_, l15_, g15_⟩ := k83_open (h W' hW); injection (Option.some.inj (show some (Value.slice A12 x.f4.f4.length c12) = some (Value.slice A12_ x.f4.f4.length c12_) from congrArg (fun l => l[12]?) he)) with ha_ _ _; rw [ha_]; exact g12_), l13, (fun W' hW => by obtain ⟨A3_, c3_, A4_, c4_, A12_, c12_, A13_, c13_, A14_, c14_, A15_, c15_, he, l3_, g3_, l4_, g4_, l12_, g12_, l13_, g13_, l14_, g14_, l15_, g15_⟩ := k83_open (h W' hW); injection (Option.some.inj (show some (Value.slice A13 x.f4.f5.length c13) = some (Value.slice A13_ x.f4.f5.length c13_) from congrArg (fun l => l[13]?) he)) with ha_ _ _; rw [ha_]; exact g13_), l14, (fun W' hW => by obtain ⟨A3_, c3_, A4_, c4_, A12_, c12_, A13_, c13_, A14_, c14_, A15_, c15_, he, l3_, g3_, l4_, g4_, l12_, g12_, l13_, g13_, l14_, g14_, l15_, g15_⟩ := k83_open (h W' hW); injection (Option.some.inj (show some (Value.slice A14 x.f4.f6.length c14) = some (Value.slice A14_ x.f4.f6.length c14_) from congrArg (fun l => l[14]?) he)) with ha_ _ _; rw [ha_]; exact g14_), l15, (fun W' hW => by obtain ⟨A3_, c3_, A4_, c4_, A12_, c12_, A13_, c13_, A14_, c14_, A15_, c15_, he, l3_, g3_, l4_, g4_, l12_, g12_, l13_, g13_, l14_, g14_, l15_, g15_⟩ := k83_open (h W' hW); injection (Option.some.inj (show some (Value.slice A15 x.f4.f7.length c15) = some (Value.slice A15_ x.f4.f7.length c15_) from congrArg (fun l => l[15]?) he)) with ha_ _ _; rw [ha_]; exact g15_)⟩
def rd_T83 (xs : List S83) (i : Int) : S83 := xs.getD i.toNat z83
theorem at_T83 {w : World} {A : Option Addr} {n : Nat} {xs : List S83} (h : Kd.C k83 w A n xs) (i : Int) (h0 : 0 ≤ i) (h1 : i < n) : ∃ ad A3 c3 A4 c4 A12 c12 A13 c13 A14 c14 A15 c15, A = some ad ∧ w.cell? (ad.add (i.toNat * 16)) = some (.int .i64 (rd_T83 xs i).f0) ∧ w.cell? ⟨(ad.add (i.toNat * 16)).block, (ad.add (i.toNat * 16)).off + 1, none⟩ = some (.string (rd_T83 xs i).f1.f0) ∧ w.cell? ⟨(ad.add (i.toNat * 16)).block, (ad.add (i.toNat * 16)).off + 2, none⟩ = some (.int .i64 (rd_T83 xs i).f1.f1) ∧ w.cell? ⟨(ad.add (i.toNat * 16)).block, (ad.add (i.toNat * 16)).off + 3, none⟩ = some (.slice A3 (rd_T83 xs i).f1.f2.length c3) ∧ w.cell? ⟨(ad.add (i.toNat * 16)).block, (ad.add (i.toNat * 16)).off + 4, none⟩ = some (.slice A4 (rd_T83 xs i).f2.length c4) ∧ w.cell? ⟨(ad.add (i.toNat * 16)).block, (ad.add (i.toNat * 16)).off + 5, none⟩ = some (.int .i64 (rd_T83 xs i).f3) ∧ w.cell? ⟨(ad.add (i.toNat * 16)).block, (ad.add (i.toNat * 16)).off + 6, none⟩ = some (.int .i64 (rd_T83 xs i).f4.f0) ∧ w.cell? ⟨(ad.add (i.toNat * 16)).block, (ad.add (i.toNat * 16)).off + 7, none⟩ = some (.int .i64 (rd_T83 xs i).f4.f1) ∧ w.cell? ⟨(ad.add (i.toNat * 16)).block, (ad.add (i.toNat * 16)).off + 8, none⟩ = some (.string (rd_T83 xs i).f4.f2.f0) ∧ w.cell? ⟨(ad.add (i.toNat * 16)).block, (ad.add (i.toNat * 16)).off + 9, none⟩ = some (.string (rd_T83 xs i).f4.f2.f1) ∧ w.cell? ⟨(ad.add (i.toNat * 16)).block, (ad.add (i.toNat * 16)).off + 10, none⟩ = some (.bool (rd_T83 xs i).f4.f2.f2) ∧ w.cell? ⟨(ad.add (i.toNat * 16)).block, (ad.add (i.toNat * 16)).off + 11, none⟩ = some (.bool (rd_T83 xs i).f4.f3) ∧ w.cell? ⟨(ad.add (i.toNat * 16)).block, (ad.add (i.toNat * 16)).off + 12, none⟩ = some (.slice A12 (rd_T83 xs i).f4.f4.length c12) ∧ w.cell? ⟨(ad.add (i.toNat * 16)).block, (ad.add (i.toNat * 16)).off + 13, none⟩ = some (.slice A13 (rd_T83 xs i).f4.f5.length c13) ∧ w.cell? ⟨(ad.add (i.toNat * 16)).block, (ad.add (i.toNat * 16)).off + 14, none⟩ = some (.slice A14 (rd_T83 xs i).f4.f6.length c14) ∧ w.cell? ⟨(ad.add (i.toNat * 16)).block, (ad.add (i.toNat * 16)).off + 15, none⟩ = some (.slice A15 (rd_T83 xs i).f4.f7.length c15) ∧ (rd_T83 xs i).f1.f2.length ≤ c3 ∧ (Kd.int .i64).C w A3 (rd_T83 xs i).f1.f2.length (rd_T83 xs i).f1.f2 ∧ (rd_T83 xs i).f2.length ≤ c4 ∧ (Kd.int .i64).C w A4 (rd_T83 xs i).f2.length (rd_T83 xs i).f2 ∧ (rd_T83 xs i).f4.f4.length ≤ c12 ∧ Kd.string.C w A12 (rd_T83 xs i).f4.f4.length (rd_T83 xs i).f4.f4 ∧ (rd_T83 xs i).f4.f5.length ≤ c13 ∧ Kd.string.C w A13 (rd_T83 xs i).f4.f5.length (rd_T83 xs i).f4.f5 ∧ (rd_T83 xs i).f4.f6.length ≤ c14 ∧ Kd.bool.C w A14 (rd_T83 xs i).f4.f6.length (rd_T83 xs i).f4.f6 ∧ (rd_T83 xs i).f4.f7.length ≤ c15 ∧ (Kd.int .i64).C w A15 (rd_T83 xs i).f4.f7.length (rd_T83 xs i).f4.f7 := by
 obtain ⟨ad, c, e, _, hK, hc0⟩ := Kd.C_get h z83 i h0 h1
 have hc : ∀ j u, c[j]? = some u → w.cell? (ad.add (i.toNat * 16 + j)) = some u := hc0
 obtain ⟨A3, c3, A4, c4, A12, c12, A13, c13, A14, c14, A15, c15, rfl, l3, g3, l4, g4, l12, g12, l13, g13, l14, g14, l15, g15⟩ := k83_open hK
 exact ⟨ad, A3, c3, A4, c4, A12, c12, A13, c13, A14, c14, A15, c15, e, hc 0 _ rfl, by rw [← add_field _ _ 1 (by omega)]; exact hc 1 _ rfl, by rw [← add_field _ _ 2 (by omega)]; exact hc 2 _ rfl, by rw [← add_field _ _ 3 (by omega)]; exact hc 3 _ rfl, by rw [← add_field _ _ 4 (by omega)]; exact hc 4 _ rfl, by rw [← add_field _ _ 5 (by omega)]; exact hc 5 _ rfl, by rw [← add_field _ _ 6 (by omega)]; exact hc 6 _ rfl, by rw [← add_field _ _ 7 (by omega)]; exact hc 7 _ rfl, by rw [← add_field _ _ 8 (by omega)]; exact hc 8 _ rfl, by rw [← add_field _ _ 9 (by omega)]; exact hc 9 _ rfl, by rw [← add_field _ _ 10 (by omega)]; exact hc 10 _ rfl, by rw [← add_field _ _ 11 (by omega)]; exact hc 11 _ rfl, by rw [← add_field _ _ 12 (by omega)]; exact hc 12 _ rfl, by rw [← add_field _ _ 13 (by omega)]; exact hc 13 _ rfl, by rw [← add_field _ _ 14 (by omega)]; exact hc 14 _ rfl, by rw [← add_field _ _ 15 (by omega)]; exact hc 15 _ rfl, l3, g3, l4, g4, l12, g12, l13, g13, l14, g14, l15, g15⟩
theorem at_T83b {w w1 : World} {A : Option Addr} {n : Nat} {xs : List S83} (h : Kd.C k83 w A n xs) (hb : Below w.heap.size w w1) (i : Int) (h0 : 0 ≤ i) (h1 : i < n) : ∃ ad A3 c3 A4 c4 A12 c12 A13 c13 A14 c14 A15 c15, A = some ad ∧ w1.cell? (ad.add (i.toNat * 16)) = some (.int .i64 (rd_T83 xs i).f0) ∧ w1.cell? ⟨(ad.add (i.toNat * 16)).block, (ad.add (i.toNat * 16)).off + 1, none⟩ = some (.string (rd_T83 xs i).f1.f0) ∧ w1.cell? ⟨(ad.add (i.toNat * 16)).block, (ad.add (i.toNat * 16)).off + 2, none⟩ = some (.int .i64 (rd_T83 xs i).f1.f1) ∧ w1.cell? ⟨(ad.add (i.toNat * 16)).block, (ad.add (i.toNat * 16)).off + 3, none⟩ = some (.slice A3 (rd_T83 xs i).f1.f2.length c3) ∧ w1.cell? ⟨(ad.add (i.toNat * 16)).block, (ad.add (i.toNat * 16)).off + 4, none⟩ = some (.slice A4 (rd_T83 xs i).f2.length c4) ∧ w1.cell? ⟨(ad.add (i.toNat * 16)).block, (ad.add (i.toNat * 16)).off + 5, none⟩ = some (.int .i64 (rd_T83 xs i).f3) ∧ w1.cell? ⟨(ad.add (i.toNat * 16)).block, (ad.add (i.toNat * 16)).off + 6, none⟩ = some (.int .i64 (rd_T83 xs i).f4.f0) ∧ w1.cell? ⟨(ad.add (i.toNat * 16)).block, (ad.add (i.toNat * 16)).off + 7, none⟩ = some (.int .i64 (rd_T83 xs i).f4.f1) ∧ w1.cell? ⟨(ad.add (i.toNat * 16)).block, (ad.add (i.toNat * 16)).off + 8, none⟩ = some (.string (rd_T83 xs i).f4.f2.f0) ∧ w1.cell? ⟨(ad.add (i.toNat * 16)).block, (ad.add (i.toNat * 16)).off + 9, none⟩ = some (.string (rd_T83 xs i).f4.f2.f1) ∧ w1.cell? ⟨(ad.add (i.toNat * 16)).block, (ad.add (i.toNat * 16)).off + 10, none⟩ = some (.bool (rd_T83 xs i).f4.f2.f2) ∧ w1.cell? ⟨(ad.add (i.toNat * 16)).block, (ad.add (i.toNat * 16)).off + 11, none⟩ = some (.bool (rd_T83 xs i).f4.f3) ∧ w1.cell? ⟨(ad.add (i.toNat * 16)).block, (ad.add (i.toNat * 16)).off + 12, none⟩ = some (.slice A12 (rd_T83 xs i).f4.f4.length c12) ∧ w1.cell? ⟨(ad.add (i.toNat * 16)).block, (ad.add (i.toNat * 16)).off + 13, none⟩ = some (.slice A13 (rd_T83 xs i).f4.f5.length c13) ∧ w1.cell? ⟨(ad.add (i.toNat * 16)).block, (ad.add (i.toNat * 16)).off + 14, none⟩ = some (.slice A14 (rd_T83 xs i).f4.f6.length c14) ∧ w1.cell? ⟨(ad.add (i.toNat * 16)).block, (ad.add (i.toNat * 16)).off + 15, none⟩ = some (.slice A15 (rd_T83 xs i).f4.f7.length c15) ∧ (rd_T83 xs i).f1.f2.length ≤ c3 ∧ (Kd.int .i64).C w A3 (rd_T83 xs i).f1.f2.length (rd_T83 xs i).f1.f2 ∧ (rd_T83 xs i).f2.length ≤ c4 ∧ (Kd.int .i64).C w A4 (rd_T83 xs i).f2.length (rd_T83 xs i).f2 ∧ (rd_T83 xs i).f4.f4.length ≤ c12 ∧ Kd.string.C w A12 (rd_T83 xs i).f4.f4.length (rd_T83 xs i).f4.f4 ∧ (rd_T83 xs i).f4.f5.length ≤ c13 ∧ Kd.string.C w A13 (rd_T83 xs i).f4.f5.length (rd_T83 xs i).f4.f5 ∧ (rd_T83 xs i).f4.f6.length ≤ c14 ∧ Kd.bool.C w A14 (rd_T83 xs i).f4.f6.length (rd_T83 xs i).f4.f6 ∧ (rd_T83 xs i).f4.f7.length ≤ c15 ∧ (Kd.int .i64).C w A15 (rd_T83 xs i).f4.f7.length (rd_T83 xs i).f4.f7 := by
 obtain ⟨ad, A3, c3, A4, c4, A12, c12, A13, c13, A14, c14, A15, c15, q0, q1, q2, q3, q4, q5, q6, q7, q8, q9, q10, q11, q12, q13, q14, q15, q16, q17, q18, q19, q20, q21, q22, q23, q24, q25, q26, q27, q28⟩ := at_T83 h i h0 h1
 exact ⟨ad, A3, c3, A4, c4, A12, c12, A13, c13, A14, c14, A15, c15, q0, (hb.cell (bL w _ q1)).trans q1, (hb.cell (bL w _ q2)).trans q2, (hb.cell (bL w _ q3)).trans q3, (hb.cell (bL w _ q4)).trans q4, (hb.cell (bL w _ q5)).trans q5, (hb.cell (bL w _ q6)).trans q6, (hb.cell (bL w _ q7)).trans q7, (hb.cell (bL w _ q8)).trans q8, (hb.cell (bL w _ q9)).trans q9, (hb.cell (bL w _ q10)).trans q10, (hb.cell (bL w _ q11)).trans q11, (hb.cell (bL w _ q12)).trans q12, (hb.cell (bL w _ q13)).trans q13, (hb.cell (bL w _ q14)).trans q14, (hb.cell (bL w _ q15)).trans q15, (hb.cell (bL w _ q16)).trans q16, q17, q18, q19, q20, q21, q22, q23, q24, q25, q26, q27, q28⟩
/-! #### struct type 92 -/
structure S92 where
 f0 : Int
 f1 : (List Int)
 f2 : (List Int)
 f3 : Bool
def z92 : S92 := ⟨(0 : Int), ([] : List Int), ([] : List Int), false⟩
def k92 : Kd S92 := Kd.iso (Kd.pair (Kd.int .i64) (Kd.pair (Kd.slice 3 (Kd.int .i64)) (Kd.pair (Kd.slice 3 (Kd.int .i64)) Kd.bool))) (fun x : S92 => (x.f0, x.f1, x.f2, x.f3))
theorem k92_open {w : World} {x : S92} {cs : List Value} (h : k92.K w x cs) : ∃ A1 c1 A2 c2, cs = [.int .i64 x.f0, .slice A1 x.f1.length c1, .slice A2 x.f2.length c2, .bool x.f3] ∧ x.f1.length ≤ c1 ∧ (Kd.int .i64).C w A1 x.f1.length x.f1 ∧ x.f2.length ≤ c2 ∧ (Kd.int .i64).C w A2 x.f2.length x.f2 := by
 obtain ⟨_, _, rfl, rfl, ⟨_, _, rfl, ⟨A1, c1, rfl, l1, g1⟩, ⟨_, _, rfl, ⟨A2, c2, rfl, l2, g2⟩, rfl⟩⟩⟩ := h
 exact ⟨A1, c1, A2, c2, rfl, l1, g1, l2, g2⟩
theorem k92_mk (w : World) (x : S92) {A1 : Option Addr} {c1 : Nat} (l1 : x.f1.length ≤ c1) (g1 : (Kd.int .i64).C w A1 x.f1.length x.f1) {A2 : Option Addr} {c2 : Nat} (l2 : x.f2.length ≤ c2) (g2 : (Kd.int .i64).C w A2 x.f2.length x.f2) : k92.K w x [.int .i64 x.f0, .slice A1 x.f1.length c1, .slice A2 x.f2.length c2, .bool x.f3] := ⟨[.int .i64 x.f0], [.slice A1 x.f1.length c1, .slice A2 x.f2.length c2, .bool x.f3], rfl, rfl, ⟨[.slice A1 x.f1.length c1], [.slice A2 x.f2.length c2, .bool x.f3], rfl, ⟨A1, c1, rfl, l1, g1⟩, ⟨[.slice A2 x.f2.length c2], [.bool x.f3], rfl, ⟨A2, c2, rfl, l2, g2⟩, rfl⟩⟩⟩
theorem k92_openF {W : World} {ok : Nat → Prop} {x : S92} {cs : List Value} (h : Kd.FK k92 W ok x cs) : ∃ A1 c1 A2 c2, cs = [.int .i64 x.f0, .slice A1 x.f1.length c1, .slice A2 x.f2.length c2, .bool x.f3] ∧ x.f1.length ≤ c1 ∧ Kd.F (Kd.int .i64) W ok A1 x.f1.length x.f1 ∧ x.f2.length ≤ c2 ∧ Kd.F (Kd.int .i64) W ok A2 x.f2.length x.f2 := by
 obtain ⟨A1, c1, A2, c2, rfl, l1, _, l2, _⟩ := k92_open (Kd.FK_now h)
 exact ⟨A1, c1, A2, c2, rfl, l1, (fun W' hW => by obtain ⟨A1_, c1_, A2_, c2_, he, l1_, g1_, l2_, g2_⟩ := k92_open (h W' hW); injection (Option.some.inj (show some (Value.slice A1 x.f1.length c1) = some (Value.slice A1_ x.f1.length c1_) from congrArg (fun l => l[1]?) he)) with ha_ _ _; rw [ha_]; exact g1_), l2, (fun W' hW => by obtain ⟨A1_, c1_, A2_, c2_, he, l1_, g1_, l2_, g2_⟩ := k92_open (h W' hW); injection (Option.some.inj (show some (Value.slice A2 x.f2.length c2) = some (Value.slice A2_ x.f2.length c2_) from congrArg (fun l => l[2]?) he)) with ha_ _ _; rw [ha_]; exact g2_)⟩
theorem k92_mkF (W : World) (ok : Nat → Prop) (x : S92) {A1 : Option Addr} {c1 : Nat} (l1 : x.f1.length ≤ c1) (g1 : Kd.F (Kd.int .i64) W ok A1 x.f1.length x.f1) {A2 : Option Addr} {c2 : Nat} (l2 : x.f2.length ≤ c2) (g2 : Kd.F (Kd.int .i64) W ok A2 x.f2.length x.f2) : Kd.FK k92 W ok x [.int .i64 x.f0, .slice A1 x.f1.length c1, .slice A2 x.f2.length c2, .bool x.f3] := fun W2 hW => k92_mk W2 x l1 (g1 W2 hW) l2 (g2 W2 hW)
def rd_T92 (xs : List S92) (i : Int) : S92 := xs.getD i.toNat z92
theorem at_T92 {w : World} {A : Option Addr} {n : Nat} {xs : List S92} (h : Kd.C k92 w A n xs) (i : Int) (h0 : 0 ≤ i) (h1 : i < n) : ∃ ad A1 c1 A2 c2, A = some ad ∧ w.cell? (ad.add (i.toNat * 4)) = some (.int .i64 (rd_T92 xs i).f0) ∧ w.cell? ⟨(ad.add (i.toNat * 4)).block, (ad.add (i.toNat * 4)).off + 1, none⟩ = some (.slice A1 (rd_T92 xs i).f1.length c1) ∧ w.cell? ⟨(ad.add (i.toNat * 4)).block, (ad.add (i.toNat * 4)).off + 2, none⟩ = some (.slice A2 (rd_T92 xs i).f2.length c2) ∧ w.cell? ⟨(ad.add (i.toNat * 4)).block, (ad.add (i.toNat * 4)).off + 3, none⟩ = some (.bool (rd_T92 xs i).f3) ∧ (rd_T92 xs i).f1.length ≤ c1 ∧ (Kd.int .i64).C w A1 (rd_T92 xs i).f1.length (rd_T92 xs i).f1 ∧ (rd_T92 xs i).f2.length ≤ c2 ∧ (Kd.int .i64).C w A2 (rd_T92 xs i).f2.length (rd_T92 xs i).f2 := by
 obtain ⟨ad, c, e, _, hK, hc0⟩ := Kd.C_get h z92 i h0 h1
 have hc : ∀ j u, c[j]? = some u → w.cell? (ad.add (i.toNat * 4 + j)) = some u := hc0
 obtain ⟨A1, c1, A2, c2, rfl, l1, g1, l2, g2⟩ := k92_open hK
 exact ⟨ad, A1, c1, A2, c2, e, hc 0 _ rfl, by rw [← add_field _ _ 1 (by omega)]; exact hc 1 _ rfl, by rw [← add_field _ _ 2 (by omega)]; exact hc 2 _ rfl, by rw [← add_field _ _ 3 (by omega)]; exact hc 3 _ rfl, l1, g1, l2, g2⟩
theorem at_T92b {w w1 : World} {A : Option Addr} {n : Nat} {xs : List S92} (h : Kd.C k92 w A n xs) (hb : Below w.heap.size w w1) (i : Int) (h0 : 0 ≤ i) (h1 : i < n) : ∃ ad A1 c1 A2 c2, A = some ad ∧ w1.cell? (ad.add (i.toNat * 4)) = some (.int .i64 (rd_T92 xs i).f0) ∧ w1.cell? ⟨(ad.add (i.toNat * 4)).block, (ad.add (i.toNat * 4)).off + 1, none⟩ = some (.slice A1 (rd_T92 xs i).f1.length c1) ∧ w1.cell? ⟨(ad.add (i.toNat * 4)).block, (ad.add (i.toNat * 4)).off + 2, none⟩ = some (.slice A2 (rd_T92 xs i).f2.length c2) ∧ w1.cell? ⟨(ad.add (i.toNat * 4)).block, (ad.add (i.toNat * 4)).off + 3, none⟩ = some (.bool (rd_T92 xs i).f3) ∧ (rd_T92 xs i).f1.length ≤ c1 ∧ (Kd.int .i64).C w A1 (rd_T92 xs i).f1.length (rd_T92 xs i).f1 ∧ (rd_T92 xs i).f2.length ≤ c2 ∧ (Kd.int .i64).C w A2 (rd_T92 xs i).f2.length (rd_T92 xs i).f2 := by
 obtain ⟨ad, A1, c1, A2, c2, q0, q1, q2, q3, q4, q5, q6, q7, q8⟩ := at_T92 h i h0 h1
 exact ⟨ad, A1, c1, A2, c2, q0, (hb.cell (bL w _ q1)).trans q1, (hb.cell (bL w _ q2)).trans q2, (hb.cell (bL w _ q3)).trans q3, (hb.cell (bL w _ q4)).trans q4, q5, q6, q7, q8⟩
/-! #### struct type 85 -/
structure S85 where
 f0 : Int
 f1 : Int
 f2 : Int
def z85 : S85 := ⟨(0 : Int), (0 : Int), (0 : Int)⟩
def k85 : Kd S85 := Kd.iso (Kd.pair (Kd.int .i64) (Kd.pair (Kd.int .i64) (Kd.int .i64))) (fun x : S85 => (x.f0, x.f1, x.f2))
theorem k85_open {w : World} {x : S85} {cs : List Value} (h : k85.K w x cs) : cs = [.int .i64 x.f0, .int .i64 x.f1, .int .i64 x.f2] := by
 obtain ⟨_, _, rfl, rfl, ⟨_, _, rfl, rfl, rfl⟩⟩ := h
 exact rfl
theorem k85_mkM (w : World) (base : Nat) (ok : Nat → Prop) (x : S85)  : k85.M w base ok x [.int .i64 x.f0, .int .i64 x.f1, .int .i64 x.f2] := ⟨[.int .i64 x.f0], [.int .i64 x.f1, .int .i64 x.f2], rfl, rfl, ⟨[.int .i64 x.f1], [.int .i64 x.f2], rfl, rfl, rfl⟩⟩
def rd_T85 (xs : List S85) (i : Int) : S85 := xs.getD i.toNat z85
theorem at_T85 {w : World} {A : Option Addr} {n : Nat} {xs : List S85} (h : Kd.C k85 w A n xs) (i : Int) (h0 : 0 ≤ i) (h1 : i < n) : ∃ ad , A = some ad ∧ w.cell? (ad.add (i.toNat * 3)) = some (.int .i64 (rd_T85 xs i).f0) ∧ w.cell? ⟨(ad.add (i.toNat * 3)).block, (ad.add (i.toNat * 3)).off + 1, none⟩ = some (.int .i64 (rd_T85 xs i).f1) ∧ w.cell? ⟨(ad.add (i.toNat * 3)).block, (ad.add (i.toNat * 3)).off + 2, none⟩ = some (.int .i64 (rd_T85 xs i).f2) := by
 obtain ⟨ad, c, e, _, hK, hc0⟩ := Kd.C_get h z85 i h0 h1
 have hc : ∀ j u, c[j]? = some u → w.cell? (ad.add (i.toNat * 3 + j)) = some u := hc0
 obtain rfl := k85_open hK
 exact ⟨ad, e, hc 0 _ rfl, by rw [← add_field _ _ 1 (by omega)]; exact hc 1 _ rfl, by rw [← add_field _ _ 2 (by omega)]; exact hc 2 _ rfl⟩
/-! #### struct type 77 -/
structure S77 where
 f0 : Int
 f1 : Bool
def z77 : S77 := ⟨(0 : Int), false⟩
def k77 : Kd S77 := Kd.iso (Kd.pair (Kd.int .i64) Kd.bool) (fun x : S77 => (x.f0, x.f1))
theorem k77_open {w : World} {x : S77} {cs : List Value} (h : k77.K w x cs) : cs = [.int .i64 x.f0, .bool x.f1] := by
 obtain ⟨_, _, rfl, rfl, rfl⟩ := h
 exact rfl
theorem k77_mkM (w : World) (base : Nat) (ok : Nat → Prop) (x : S77)  : k77.M w base ok x [.int .i64 x.f0, .bool x.f1] := ⟨[.int .i64 x.f0], [.bool x.f1], rfl, rfl, rfl⟩
def rd_T77 (xs : List S77) (i : Int) : S77 := xs.getD i.toNat z77
theorem at_T77 {w : World} {A : Option Addr} {n : Nat} {xs : List S77} (h : Kd.C k77 w A n xs) (i : Int) (h0 : 0 ≤ i) (h1 : i < n) : ∃ ad , A = some ad ∧ w.cell? (ad.add (i.toNat * 2)) = some (.int .i64 (rd_T77 xs i).f0) ∧ w.cell? ⟨(ad.add (i.toNat * 2)).block, (ad.add (i.toNat * 2)).off + 1, none⟩ = some (.bool (rd_T77 xs i).f1) := by
 obtain ⟨ad, c, e, _, hK, hc0⟩ := Kd.C_get h z77 i h0 h1
 have hc : ∀ j u, c[j]? = some u → w.cell? (ad.add (i.toNat * 2 + j)) = some u := hc0
 obtain rfl := k77_open hK
 exact ⟨ad, e, hc 0 _ rfl, by rw [← add_field _ _ 1 (by omega)]; exact hc 1 _ rfl⟩
end Go.Proofs.Ytoaacdjcjicemaa.PPlanRelinks
