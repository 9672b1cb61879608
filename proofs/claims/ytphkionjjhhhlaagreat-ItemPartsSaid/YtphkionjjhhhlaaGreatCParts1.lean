/- Lemmas and walks of this proof (part 1). -/
import Derived.ArgAppend
import Derived.Below
import Derived.BigQuiet
import Derived.ChangeSame
import Derived.DataElems
import Derived.Deep.AppendLies
import Derived.Deep.CutBlock
import Derived.Deep.DeepCutAuto
import Derived.Deep.Draws
import Derived.Deep.LoopGhost
import Derived.Deep.OwnRows
import Derived.Deep.QuietTactic
import Derived.Deep.RegionHeld3
import Derived.Deep.Slices
import Derived.Deep.Strs
import Derived.KernelRfl
import Derived.Laws.BitsLemmas
import Derived.Laws.BytesArg
import Derived.Laws.IdiomCopy
import Derived.Laws.MakeOwn
import Derived.Laws.OwnMore
import Derived.Laws.Rows
import Derived.Laws.Slices
import Derived.Lib.AppendStr
import Derived.Lib.ConvBytes
import Derived.Maps.AppendAt
import Derived.OrdersHeld
import Derived.OwnWalk
import Derived.RowKit
import Derived.RowKit3
import Derived.Shelf.Abstract
import Derived.Tactics
import Derived.Test.YtphkionjjhhhlaaGreatProg
import Derived.WalkKit
import Derived.WalkSpells
import Derived.WideLaws
import Derived.Test.YtphkionjjhhhlaaGreatCParts0
set_option linter.unusedVariables false
set_option linter.unusedSimpArgs false
section
namespace Go.Proofs.YtphkionjjhhhlaaGreat.Q
open Go.RowKit Go.Proofs.YtphkionjjhhhlaaGreatW.PrintWords Go.Proofs.YtphkionjjhhhlaaGreatW.PrintLast Go.Proofs.YtphkionjjhhhlaaGreatW.PrintMore
def errW : Option Int → Value
 | none => .nilIface
 | some c => .iface 0 (.int .i64 c)
theorem errW_none : errW none = .nilIface := rfl
theorem errW_some (c : Int) : errW (some c) = .iface 0 (.int .i64 c) := rfl
theorem info3 : (Tryz.prog.info? 3).map (fun i => (i.zero, i.size, i.bytes)) = some (some (.int .i64 0), 1, 8) := by kernel_rfl
theorem info4 : (Tryz.prog.info? 4).map (fun i => (i.zero, i.size, i.bytes)) = some (some (.bool false), 1, 1) := by kernel_rfl
theorem info24 : (Tryz.prog.info? 24).map (fun i => (i.zero, i.size, i.bytes)) = some (some (.agg #[(.int .i64 0), (.int .i64 0), (.int .i64 0), (.slice none 0 0)]), 4, 48) := by kernel_rfl
theorem info39 : (Tryz.prog.info? 39).map (fun i => (i.zero, i.size, i.bytes)) = some (some (.slice none 0 0), 1, 24) := by kernel_rfl
theorem info104 : (Tryz.prog.info? 104).map (fun i => (i.zero, i.size, i.bytes)) = some (some (.agg #[(.int .i64 0), (.int .i64 0), (.int .i64 0), (.int .i64 0)]), 4, 32) := by kernel_rfl
def rd_L1 (xs : List (List Int)) (i : Int) : (List Int) := xs.getD i.toNat ([] : List Int)
theorem at_L1 {w : World} {A : Option Addr} {n : Nat} {xs : List (List Int)} (h : Kd.C (Kd.slice 3 (Kd.int .i64)) w A n xs) (i : Int) (h0 : 0 ≤ i) (h1 : i < n) : ∃ ad A0 c0, A = some ad ∧ w.cell? (ad.add i.toNat) = some (.slice A0 (rd_L1 xs i).length c0) ∧ (rd_L1 xs i).length ≤ c0 ∧ (Kd.int .i64).C w A0 (rd_L1 xs i).length (rd_L1 xs i) := by
 obtain ⟨ad, c, e, _, hK, hc0⟩ := Kd.C_get h ([] : List Int) i h0 h1
 have hc : ∀ j u, c[j]? = some u → w.cell? (ad.add (i.toNat * 1 + j)) = some u := hc0
 obtain ⟨A0, c0, rfl, l0, g0⟩ := hK
 exact ⟨ad, A0, c0, e, by have hq := hc 0 _ rfl; rwa [Nat.mul_one, Nat.add_zero] at hq, l0, g0⟩
structure S24 where
 f0 : Int
 f1 : Int
 f2 : Int
 f3 : (List (List Int))
def z24 : S24 := ⟨(0 : Int), (0 : Int), (0 : Int), ([] : List (List Int))⟩
def k24 : Kd S24 := Kd.iso (Kd.pair (Kd.int .i64) (Kd.pair (Kd.int .i64) (Kd.pair (Kd.int .i64) (Kd.slice 39 (Kd.slice 3 (Kd.int .i64)))))) (fun x : S24 => (x.f0, x.f1, x.f2, x.f3))
theorem k24_open {w : World} {x : S24} {cs : List Value} (h : k24.K w x cs) : ∃ A3 c3, cs = [.int .i64 x.f0, .int .i64 x.f1, .int .i64 x.f2, .slice A3 x.f3.length c3] ∧ x.f3.length ≤ c3 ∧ (Kd.slice 3 (Kd.int .i64)).C w A3 x.f3.length x.f3 := by
 obtain ⟨_, _, rfl, rfl, ⟨_, _, rfl, rfl, ⟨_, _, rfl, rfl, ⟨A3, c3, rfl, l3, g3⟩⟩⟩⟩ := h
 exact ⟨A3, c3, rfl, l3, g3⟩
theorem k24_mkM (w : World) (base : Nat) (ok : Nat → Prop) (x : S24) {v3 : Value} (g3 : (Kd.slice 3 (Kd.int .i64)).R 39 w base ok v3 x.f3) : k24.M w base ok x [.int .i64 x.f0, .int .i64 x.f1, .int .i64 x.f2, v3] := ⟨[.int .i64 x.f0], [.int .i64 x.f1, .int .i64 x.f2, v3], rfl, rfl, ⟨[.int .i64 x.f1], [.int .i64 x.f2, v3], rfl, rfl, ⟨[.int .i64 x.f2], [v3], rfl, rfl, ⟨v3, rfl, g3⟩⟩⟩⟩
def rd_T24 (xs : List S24) (i : Int) : S24 := xs.getD i.toNat z24
theorem at_T24 {w : World} {A : Option Addr} {n : Nat} {xs : List S24} (h : Kd.C k24 w A n xs) (i : Int) (h0 : 0 ≤ i) (h1 : i < n) : ∃ ad A3 c3, A = some ad ∧ w.cell? (ad.add (i.toNat * 4)) = some (.int .i64 (rd_T24 xs i).f0) ∧ w.cell? ⟨(ad.add (i.toNat * 4)).block, (ad.add (i.toNat * 4)).off + 1, none⟩ = some (.int .i64 (rd_T24 xs i).f1) ∧ w.cell? ⟨(ad.add (i.toNat * 4)).block, (ad.add (i.toNat * 4)).off + 2, none⟩ = some (.int .i64 (rd_T24 xs i).f2) ∧ w.cell? ⟨(ad.add (i.toNat * 4)).block, (ad.add (i.toNat * 4)).off + 3, none⟩ = some (.slice A3 (rd_T24 xs i).f3.length c3) ∧ (rd_T24 xs i).f3.length ≤ c3 ∧ (Kd.slice 3 (Kd.int .i64)).C w A3 (rd_T24 xs i).f3.length (rd_T24 xs i).f3 := by
 obtain ⟨ad, c, e, _, hK, hc0⟩ := Kd.C_get h z24 i h0 h1
 have hc : ∀ j u, c[j]? = some u → w.cell? (ad.add (i.toNat * 4 + j)) = some u := hc0
 obtain ⟨A3, c3, rfl, l3, g3⟩ := k24_open hK
 exact ⟨ad, A3, c3, e, hc 0 _ rfl, by rw [← add_field _ _ 1 (by omega)]; exact hc 1 _ rfl, by rw [← add_field _ _ 2 (by omega)]; exact hc 2 _ rfl, by rw [← add_field _ _ 3 (by omega)]; exact hc 3 _ rfl, l3, g3⟩
structure S68 where
 f0 : Int
 f1 : Int
 f2 : (List Int)
 f3 : (List Int)
 f4 : (List Int)
 f5 : Int
 f6 : Int
 f7 : Int
 f8 : Int
 f9 : (List Int)
 f10 : Int
 f11 : Bool
def z68 : S68 := ⟨(0 : Int), (0 : Int), ([] : List Int), ([] : List Int), ([] : List Int), (0 : Int), (0 : Int), (0 : Int), (0 : Int), ([] : List Int), (0 : Int), false⟩
def k68 : Kd S68 := Kd.iso (Kd.pair (Kd.int .i64) (Kd.pair (Kd.int .i64) (Kd.pair (Kd.slice 5 (Kd.int .u8)) (Kd.pair (Kd.slice 3 (Kd.int .i64)) (Kd.pair (Kd.slice 3 (Kd.int .i64)) (Kd.pair (Kd.int .i64) (Kd.pair (Kd.int .i64) (Kd.pair (Kd.int .i64) (Kd.pair (Kd.int .i64) (Kd.pair (Kd.slice 3 (Kd.int .i64)) (Kd.pair (Kd.int .i64) Kd.bool))))))))))) (fun x : S68 => (x.f0, x.f1, x.f2, x.f3, x.f4, x.f5, x.f6, x.f7, x.f8, x.f9, x.f10, x.f11))
theorem k68_open {w : World} {x : S68} {cs : List Value} (h : k68.K w x cs) : ∃ A2 c2 A3 c3 A4 c4 A9 c9, cs = [.int .i64 x.f0, .int .i64 x.f1, .slice A2 x.f2.length c2, .slice A3 x.f3.length c3, .slice A4 x.f4.length c4, .int .i64 x.f5, .int .i64 x.f6, .int .i64 x.f7, .int .i64 x.f8, .slice A9 x.f9.length c9, .int .i64 x.f10, .bool x.f11] ∧ x.f2.length ≤ c2 ∧ (Kd.int .u8).C w A2 x.f2.length x.f2 ∧ x.f3.length ≤ c3 ∧ (Kd.int .i64).C w A3 x.f3.length x.f3 ∧ x.f4.length ≤ c4 ∧ (Kd.int .i64).C w A4 x.f4.length x.f4 ∧ x.f9.length ≤ c9 ∧ (Kd.int .i64).C w A9 x.f9.length x.f9 := by
 obtain ⟨_, _, rfl, rfl, ⟨_, _, rfl, rfl, ⟨_, _, rfl, ⟨A2, c2, rfl, l2, g2⟩, ⟨_, _, rfl, ⟨A3, c3, rfl, l3, g3⟩, ⟨_, _, rfl, ⟨A4, c4, rfl, l4, g4⟩, ⟨_, _, rfl, rfl, ⟨_, _, rfl, rfl, ⟨_, _, rfl, rfl, ⟨_, _, rfl, rfl, ⟨_, _, rfl, ⟨A9, c9, rfl, l9, g9⟩, ⟨_, _, rfl, rfl, rfl⟩⟩⟩⟩⟩⟩⟩⟩⟩⟩⟩ := h
 exact ⟨A2, c2, A3, c3, A4, c4, A9, c9, rfl, l2, g2, l3, g3, l4, g4, l9, g9⟩
theorem k68_mk (w : World) (x : S68) {A2 : Option Addr} {c2 : Nat} (l2 : x.f2.length ≤ c2) (g2 : (Kd.int .u8).C w A2 x.f2.length x.f2) {A3 : Option Addr} {c3 : Nat} (l3 : x.f3.length ≤ c3) (g3 : (Kd.int .i64).C w A3 x.f3.length x.f3) {A4 : Option Addr} {c4 : Nat} (l4 : x.f4.length ≤ c4) (g4 : (Kd.int .i64).C w A4 x.f4.length x.f4) {A9 : Option Addr} {c9 : Nat} (l9 : x.f9.length ≤ c9) (g9 : (Kd.int .i64).C w A9 x.f9.length x.f9) : k68.K w x [.int .i64 x.f0, .int .i64 x.f1, .slice A2 x.f2.length c2, .slice A3 x.f3.length c3, .slice A4 x.f4.length c4, .int .i64 x.f5, .int .i64 x.f6, .int .i64 x.f7, .int .i64 x.f8, .slice A9 x.f9.length c9, .int .i64 x.f10, .bool x.f11] := ⟨[.int .i64 x.f0], [.int .i64 x.f1, .slice A2 x.f2.length c2, .slice A3 x.f3.length c3, .slice A4 x.f4.length c4, .int .i64 x.f5, .int .i64 x.f6, .int .i64 x.f7, .int .i64 x.f8, .slice A9 x.f9.length c9, .int .i64 x.f10, .bool x.f11], rfl, rfl, ⟨[.int .i64 x.f1], [.slice A2 x.f2.length c2, .slice A3 x.f3.length c3, .slice A4 x.f4.length c4, .int .i64 x.f5, .int .i64 x.f6, .int .i64 x.f7, .int .i64 x.f8, .slice A9 x.f9.length c9, .int .i64 x.f10, .bool x.f11], rfl, rfl, ⟨[.slice A2 x.f2.length c2], [.slice A3 x.f3.length c3, .slice A4 x.f4.length c4, .int .i64 x.f5, .int .i64 x.f6, .int .i64 x.f7, .int .i64 x.f8, .slice A9 x.f9.length c9, .int .i64 x.f10, .bool x.f11], rfl, ⟨A2, c2, rfl, l2, g2⟩, ⟨[.slice A3 x.f3.length c3], [.slice A4 x.f4.length c4, .int .i64 x.f5, .int .i64 x.f6, .int .i64 x.f7, .int .i64 x.f8, .slice A9 x.f9.length c9, .int .i64 x.f10, .bool x.f11], rfl, ⟨A3, c3, rfl, l3, g3⟩, ⟨[.slice A4 x.f4.length c4], [.int .i64 x.f5, .int .i64 x.f6, .int .i64 x.f7, .int .i64 x.f8, .slice A9 x.f9.length c9, .int .i64 x.f10, .bool x.f11], rfl, ⟨A4, c4, rfl, l4, g4⟩, ⟨[.int .i64 x.f5], [.int .i64 x.f6, .int .i64 x.f7, .int .i64 x.f8, .slice A9 x.f9.length c9, .int .i64 x.f10, .bool x.f11], rfl, rfl, ⟨[.int .i64 x.f6], [.int .i64 x.f7, .int .i64 x.f8, .slice A9 x.f9.length c9, .int .i64 x.f10, .bool x.f11], rfl, rfl, ⟨[.int .i64 x.f7], [.int .i64 x.f8, .slice A9 x.f9.length c9, .int .i64 x.f10, .bool x.f11], rfl, rfl, ⟨[.int .i64 x.f8], [.slice A9 x.f9.length c9, .int .i64 x.f10, .bool x.f11], rfl, rfl, ⟨[.slice A9 x.f9.length c9], [.int .i64 x.f10, .bool x.f11], rfl, ⟨A9, c9, rfl, l9, g9⟩, ⟨[.int .i64 x.f10], [.bool x.f11], rfl, rfl, rfl⟩⟩⟩⟩⟩⟩⟩⟩⟩⟩⟩
def rd_T68 (xs : List S68) (i : Int) : S68 := xs.getD i.toNat z68
theorem at_T68 {w : World} {A : Option Addr} {n : Nat} {xs : List S68} (h : Kd.C k68 w A n xs) (i : Int) (h0 : 0 ≤ i) (h1 : i < n) : ∃ ad A2 c2 A3 c3 A4 c4 A9 c9, A = some ad ∧ w.cell? (ad.add (i.toNat * 12)) = some (.int .i64 (rd_T68 xs i).f0) ∧ w.cell? ⟨(ad.add (i.toNat * 12)).block, (ad.add (i.toNat * 12)).off + 1, none⟩ = some (.int .i64 (rd_T68 xs i).f1) ∧ w.cell? ⟨(ad.add (i.toNat * 12)).block, (ad.add (i.toNat * 12)).off + 2, none⟩ = some (.slice A2 (rd_T68 xs i).f2.length c2) ∧ w.cell? ⟨(ad.add (i.toNat * 12)).block, (ad.add (i.toNat * 12)).off + 3, none⟩ = some (.slice A3 (rd_T68 xs i).f3.length c3) ∧ w.cell? ⟨(ad.add (i.toNat * 12)).block, (ad.add (i.toNat * 12)).off + 4, none⟩ = some (.slice A4 (rd_T68 xs i).f4.length c4) ∧ w.cell? ⟨(ad.add (i.toNat * 12)).block, (ad.add (i.toNat * 12)).off + 5, none⟩ = some (.int .i64 (rd_T68 xs i).f5) ∧ w.cell? ⟨(ad.add (i.toNat * 12)).block, (ad.add (i.toNat * 12)).off + 6, none⟩ = some (.int .i64 (rd_T68 xs i).f6) ∧ w.cell? ⟨(ad.add (i.toNat * 12)).block, (ad.add (i.toNat * 12)).off + 7, none⟩ = some (.int .i64 (rd_T68 xs i).f7) ∧ w.cell? ⟨(ad.add (i.toNat * 12)).block, (ad.add (i.toNat * 12)).off + 8, none⟩ = some (.int .i64 (rd_T68 xs i).f8) ∧ w.cell? ⟨(ad.add (i.toNat * 12)).block, (ad.add (i.toNat * 12)).off + 9, none⟩ = some (.slice A9 (rd_T68 xs i).f9.length c9) ∧ w.cell? ⟨(ad.add (i.toNat * 12)).block, (ad.add (i.toNat * 12)).off + 10, none⟩ = some (.int .i64 (rd_T68 xs i).f10) ∧ w.cell? ⟨(ad.add (i.toNat * 12)).block, (ad.add (i.toNat * 12)).off + 11, none⟩ = some (.bool (rd_T68 xs i).f11) ∧ (rd_T68 xs i).f2.length ≤ c2 ∧ (Kd.int .u8).C w A2 (rd_T68 xs i).f2.length (rd_T68 xs i).f2 ∧ (rd_T68 xs i).f3.length ≤ c3 ∧ (Kd.int .i64).C w A3 (rd_T68 xs i).f3.length (rd_T68 xs i).f3 ∧ (rd_T68 xs i).f4.length ≤ c4 ∧ (Kd.int .i64).C w A4 (rd_T68 xs i).f4.length (rd_T68 xs i).f4 ∧ (rd_T68 xs i).f9.length ≤ c9 ∧ (Kd.int .i64).C w A9 (rd_T68 xs i).f9.length (rd_T68 xs i).f9 := by
 obtain ⟨ad, c, e, _, hK, hc0⟩ := Kd.C_get h z68 i h0 h1
 have hc : ∀ j u, c[j]? = some u → w.cell? (ad.add (i.toNat * 12 + j)) = some u := hc0
 obtain ⟨A2, c2, A3, c3, A4, c4, A9, c9, rfl, l2, g2, l3, g3, l4, g4, l9, g9⟩ := k68_open hK
 exact ⟨ad, A2, c2, A3, c3, A4, c4, A9, c9, e, hc 0 _ rfl, by rw [← add_field _ _ 1 (by omega)]; exact hc 1 _ rfl, by rw [← add_field _ _ 2 (by omega)]; exact hc 2 _ rfl, by rw [← add_field _ _ 3 (by omega)]; exact hc 3 _ rfl, by rw [← add_field _ _ 4 (by omega)]; exact hc 4 _ rfl, by rw [← add_field _ _ 5 (by omega)]; exact hc 5 _ rfl, by rw [← add_field _ _ 6 (by omega)]; exact hc 6 _ rfl, by rw [← add_field _ _ 7 (by omega)]; exact hc 7 _ rfl, by rw [← add_field _ _ 8 (by omega)]; exact hc 8 _ rfl, by rw [← add_field _ _ 9 (by omega)]; exact hc 9 _ rfl, by rw [← add_field _ _ 10 (by omega)]; exact hc 10 _ rfl, by rw [← add_field _ _ 11 (by omega)]; exact hc 11 _ rfl, l2, g2, l3, g3, l4, g4, l9, g9⟩
structure S104 where
 f0 : Int
 f1 : Int
 f2 : Int
 f3 : Int
def z104 : S104 := ⟨(0 : Int), (0 : Int), (0 : Int), (0 : Int)⟩
def k104 : Kd S104 := Kd.iso (Kd.pair (Kd.int .i64) (Kd.pair (Kd.int .i64) (Kd.pair (Kd.int .i64) (Kd.int .i64)))) (fun x : S104 => (x.f0, x.f1, x.f2, x.f3))
theorem k104_open {w : World} {x : S104} {cs : List Value} (h : k104.K w x cs) : cs = [.int .i64 x.f0, .int .i64 x.f1, .int .i64 x.f2, .int .i64 x.f3] := by
 obtain ⟨_, _, rfl, rfl, ⟨_, _, rfl, rfl, ⟨_, _, rfl, rfl, rfl⟩⟩⟩ := h
 exact rfl
theorem k104_mkM (w : World) (base : Nat) (ok : Nat → Prop) (x : S104)  : k104.M w base ok x [.int .i64 x.f0, .int .i64 x.f1, .int .i64 x.f2, .int .i64 x.f3] := ⟨[.int .i64 x.f0], [.int .i64 x.f1, .int .i64 x.f2, .int .i64 x.f3], rfl, rfl, ⟨[.int .i64 x.f1], [.int .i64 x.f2, .int .i64 x.f3], rfl, rfl, ⟨[.int .i64 x.f2], [.int .i64 x.f3], rfl, rfl, rfl⟩⟩⟩
def rd_T104 (xs : List S104) (i : Int) : S104 := xs.getD i.toNat z104
theorem at_T104 {w : World} {A : Option Addr} {n : Nat} {xs : List S104} (h : Kd.C k104 w A n xs) (i : Int) (h0 : 0 ≤ i) (h1 : i < n) : ∃ ad , A = some ad ∧ w.cell? (ad.add (i.toNat * 4)) = some (.int .i64 (rd_T104 xs i).f0) ∧ w.cell? ⟨(ad.add (i.toNat * 4)).block, (ad.add (i.toNat * 4)).off + 1, none⟩ = some (.int .i64 (rd_T104 xs i).f1) ∧ w.cell? ⟨(ad.add (i.toNat * 4)).block, (ad.add (i.toNat * 4)).off + 2, none⟩ = some (.int .i64 (rd_T104 xs i).f2) ∧ w.cell? ⟨(ad.add (i.toNat * 4)).block, (ad.add (i.toNat * 4)).off + 3, none⟩ = some (.int .i64 (rd_T104 xs i).f3) := by
 obtain ⟨ad, c, e, _, hK, hc0⟩ := Kd.C_get h z104 i h0 h1
 have hc : ∀ j u, c[j]? = some u → w.cell? (ad.add (i.toNat * 4 + j)) = some u := hc0
 obtain rfl := k104_open hK
 exact ⟨ad, e, hc 0 _ rfl, by rw [← add_field _ _ 1 (by omega)]; exact hc 1 _ rfl, by rw [← add_field _ _ 2 (by omega)]; exact hc 2 _ rfl, by rw [← add_field _ _ 3 (by omega)]; exact hc 3 _ rfl⟩
structure S111 where
 f0 : Int
 f1 : Int
 f2 : Int
 f3 : Int
def z111 : S111 := ⟨(0 : Int), (0 : Int), (0 : Int), (0 : Int)⟩
def rd_T111 (xs : List S111) (i : Int) : S111 := xs.getD i.toNat z111
end Go.Proofs.YtphkionjjhhhlaaGreat.Q
end
section
namespace Go.Proofs.YtphkionjjhhhlaaGreat.Q
open Go.RowKit Go.Deep Go.ChangeShapes Go.WideShapes
open Go.Proofs.YtphkionjjhhhlaaGreatW.PrintWords Go.Proofs.YtphkionjjhhhlaaGreatW.PrintLast Go.Proofs.YtphkionjjhhhlaaGreatW.PrintMore
def Opens {α : Type} (P : Program) (t : TypeId) (E : Kd α) (G : α → Prop) : Prop :=
 P.cellsOf t = E.sz ∧ ∀ (H : Type) (enc : TypeId × Value → H) (w : World) (base : Nat) (held : Bool) (fuel : Nat) (cs : List Value) (x : DataW H × List MemPlace),
  DataW.trod enc P w base (fun _ => true) held fuel t cs = some x → ∃ a, E.K w a cs ∧ G a
theorem opens_int {P : Program} {t : TypeId} {k : IntKind} (ht : P.underlying t = some (.int k)) (hs : P.cellsOf t = 1) : Opens P t (Kd.int k) (fun n => (Lit.int k n).wf = true) :=
 ⟨hs, fun H enc w base held fuel cs x h => by
  obtain ⟨n, rfl, _, hw⟩ := DataW.trod_int ht h
  exact ⟨n, rfl, hw⟩⟩
theorem list_of {α : Type} {p : Nat → α → Prop} : ∀ n, (∀ i, i < n → ∃ y, p i y) → ∃ l : List α, l.length = n ∧ ∀ j y, l[j]? = some y → p j y := by
 intro n
 induction n with
 | zero => exact fun _ => ⟨[], rfl, fun j y h => by simp at h⟩
 | succ n ih =>
  intro h
  obtain ⟨l, hl, hp⟩ := ih fun i hi => h i (by omega)
  obtain ⟨y, hy⟩ := h n (by omega)
  refine ⟨l ++ [y], by simp [hl], fun j z hz => ?_⟩
  by_cases hj : j < n
  ·rw [List.getElem?_append_left (by omega)] at hz
   exact hp j z hz
  ·have hjn : j = n := by
    have := (List.getElem?_eq_some_iff.1 hz).1
    simp [hl] at this
    omega
   subst hjn
   rw [List.getElem?_append_right (by omega), hl] at hz
   simp at hz
   rw [← hz]; exact hy
theorem opens_slice {α : Type} {P : Program} {t e : TypeId} {E : Kd α} {G : α → Prop} (ht : P.underlying t = some (.slice e)) (hs : P.cellsOf t = 1) (he : Opens P e E G) : Opens P t (Kd.slice e E) (fun l => ∀ a ∈ l, G a) := by
 refine ⟨hs, fun H enc w base held fuel cs x h => ?_⟩
 rcases open_slice ht h with ⟨rfl, _⟩ | ⟨a, len, cap, m, n, D, Pl, rfl, hb, hl, hm, hmm, _, hx⟩
 ·exact ⟨[], ⟨none, 0, rfl, Nat.le_refl _, rfl, Nat.zero_le _, fun h => absurd h (Nat.lt_irrefl 0)⟩, by simp⟩
 ·simp only [if_true] at hmm
  subst hmm
  obtain ⟨l, hll, hp⟩ := list_of (p := fun i y => ∃ cs', w.cells? base (a.add (i * P.cellsOf e)) (P.cellsOf e) = some cs' ∧ E.K w y cs' ∧ G y) len fun i hi => by
   obtain ⟨cs', h1, h2⟩ := hx i (by omega)
   obtain ⟨y, h3, h4⟩ := he.2 H enc w base held n cs' _ h2
   exact ⟨y, cs', h1, h3, h4⟩
  have hml : maxLen ≤ 9223372036854775807 := by decide
  refine ⟨l, ⟨some a, m, by rw [hll], by omega, rfl, by omega, fun _ => ⟨a, rfl, fun j p hj => ?_⟩⟩, fun y hy => ?_⟩
  ·obtain ⟨cs', h1, h2, _⟩ := hp j p hj
   obtain ⟨_, h4, h5⟩ := World.cells?_some h1
   have hlen := E.K_len h2
   refine ⟨cs', hlen, h2, fun i u hu => ?_⟩
   have hi := (List.getElem?_eq_some_iff.1 hu).1
   have := h5 i (by omega)
   rw [Addr.add_add, he.1] at this
   rw [this]; exact hu
  ·obtain ⟨j, hj⟩ := List.getElem?_of_mem hy
   obtain ⟨_, _, _, h⟩ := hp j y hj
   exact h
def OpensF {α : Type} (P : Program) (fs : List Field) (off : Nat) (E : Kd α) (G : α → Prop) : Prop :=
 ∀ (H : Type) (enc : TypeId × Value → H) (w : World) (base : Nat) (held : Bool) (n : Nat) (cs : List Value), (∀ f ∈ fs, ∃ y, DataW.trod enc P w base (fun _ => true) held n f.type ((cs.drop f.offset).take (P.cellsOf f.type)) = some y) →
  ∃ a, E.K w a ((cs.drop off).take E.sz) ∧ G a
theorem opensF_one {α : Type} {P : Program} {f : Field} {off : Nat} {E : Kd α} {G : α → Prop} (h : Opens P f.type E G) (ho : f.offset = off) : OpensF P [f] off E G := by
 intro H enc w base held n cs hf
 obtain ⟨y, hy⟩ := hf f (List.mem_singleton.2 rfl)
 rw [h.1, ho] at hy
 exact h.2 H enc w base held n _ _ hy
theorem opensF_cons {α β : Type} {P : Program} {f : Field} {fs : List Field} {off off' : Nat} {E : Kd α} {F : Kd β} {G : α → Prop} {G' : β → Prop} (h : Opens P f.type E G) (ho : f.offset = off) (hr : OpensF P fs off' F G') (h' : off' = off + E.sz) :
  OpensF P (f :: fs) off (Kd.pair E F) (fun a => G a.1 ∧ G' a.2) := by
 intro H enc w base held n cs hf
 obtain ⟨a, h1, h2⟩ := opensF_one h ho H enc w base held n cs (fun g hg => hf g (by rw [List.mem_singleton.1 hg]; exact List.mem_cons_self))
 obtain ⟨b, h3, h4⟩ := hr H enc w base held n cs (fun g hg => hf g (List.mem_cons_of_mem _ hg))
 refine ⟨(a, b), ⟨_, _, ?_, h1, h3⟩, h2, h4⟩
 show (cs.drop off).take (E.sz + F.sz) = _
 rw [h', List.take_add, List.drop_drop]
theorem opens_struct {α : Type} {P : Program} {t : TypeId} {fs : Array Field} {E : Kd α} {G : α → Prop} (ht : P.underlying t = some (.struct fs)) (hs : P.cellsOf t = E.sz) (h : OpensF P fs.toList 0 E G) : Opens P t E G := by
 refine ⟨hs, fun H enc w base held fuel cs x hx => ?_⟩
 obtain ⟨xs, n, _, rfl, hl, hlen, hf⟩ := DataW.trod_struct ht hx
 obtain ⟨a, h1, h2⟩ := h H enc w base held n cs fun f hfm => by
  obtain ⟨i, hi⟩ := List.getElem?_of_mem hfm
  have hi' : fs[i]? = some f := by simpa using hi
  have hlt : i < fs.size := (Array.getElem?_eq_some_iff.1 hi').1
  have := hf i f hi'
  rw [List.getElem?_eq_getElem (by omega)] at this
  exact ⟨_, this⟩
 refine ⟨a, ?_, h2⟩
 rwa [List.drop_zero, List.take_of_length_le (by omega)] at h1
theorem opens_weaken {α : Type} {P : Program} {t : TypeId} {E : Kd α} {G G' : α → Prop} (h : Opens P t E G) (hg : ∀ a, G a → G' a) : Opens P t E G' :=
 ⟨h.1, fun H enc w base held fuel cs x hx => by
  obtain ⟨a, h1, h2⟩ := h.2 H enc w base held fuel cs x hx
  exact ⟨a, h1, hg a h2⟩⟩
abbrev Wi (n : Int) : Prop := (Lit.int .i64 n).wf = true
abbrev Wis (l : List Int) : Prop := ∀ n ∈ l, Wi n
theorem o3 : Opens Tryz.prog 3 (Kd.int .i64) Wi := opens_int Tryz.underlying3 (by kernel_rfl)
theorem o39 : Opens Tryz.prog 39 (Kd.slice 3 (Kd.int .i64)) Wis := opens_slice Tryz.underlying39 (by kernel_rfl) o3
theorem o22 : Opens Tryz.prog 22 (Kd.slice 39 (Kd.slice 3 (Kd.int .i64))) (fun l => ∀ r ∈ l, Wis r) := opens_slice Tryz.underlying22 (by kernel_rfl) o39
abbrev kImg := Kd.pair (Kd.int .i64) (Kd.pair (Kd.int .i64) (Kd.pair (Kd.int .i64) (Kd.slice 39 (Kd.slice 3 (Kd.int .i64)))))
abbrev WImg (x : Int × Int × Int × List (List Int)) : Prop := Wi x.1 ∧ Wi x.2.1 ∧ Wi x.2.2.1 ∧ ∀ r ∈ x.2.2.2, Wis r
set_option maxRecDepth 100000 in
theorem o24 : Opens Tryz.prog 24 kImg WImg := opens_weaken (opens_struct Tryz.underlying24 (by kernel_rfl) (opensF_cons o3 rfl (opensF_cons o3 rfl (opensF_cons o3 rfl (opensF_one o22 rfl) rfl) rfl) rfl)) (fun _ h => h)
end Go.Proofs.YtphkionjjhhhlaaGreat.Q
end
section
namespace Go.Proofs.YtphkionjjhhhlaaGreat.Q
open Go.RowKit Go.Proofs.YtphkionjjhhhlaaGreatW.PrintWords Go.Proofs.YtphkionjjhhhlaaGreatW.PrintLast Go.Proofs.YtphkionjjhhhlaaGreatW.PrintMore
def r14_in.f (a0 : Int) (a1 : Int) (a2 : Int) : Option (Bool) := if a0 ≥ a1 then (some (decide (a0 ≤ a2))) else (some false)
set_option maxHeartbeats 8000000 in
set_option maxRecDepth 100000 in
theorem r14_in.calls (a0 : Int) (a1 : Int) (a2 : Int) (r : Bool) (w : World) (h : r14_in.f a0 a1 a2 = some r) :
  Calls Tryz.prog 77 #[.int .i64 a0, .int .i64 a1, .int .i64 a2] w fun e w' => e = .returned (.bool r) ∧ Drawn0 w w' := by
 have H : (if a0 ≥ a1 then (some (decide (a0 ≤ a2))) else (some false)) = some r := h
 clear h
 by_cases c4 : a0 ≥ a1
 ·rw [if_pos c4] at H
  have c4b0 : decide (a1 ≤ a0) = true := decide_eq_true c4
  clear c4
  obtain rfl := Option.some.inj H
  go_enter Tryz.func77, Tryz.ntmps77
  go_wp2
  go_ret
  exact ⟨by first | rfl | (simp; done) | (simp [*]; done), by repeat (first | exact Drawn0.refl _ | apply Drawn0.step)⟩
 ·rw [if_neg c4] at H
  have c4b0 : decide (a1 ≤ a0) = false := decide_eq_false c4
  clear c4
  obtain rfl := Option.some.inj H
  go_enter Tryz.func77, Tryz.ntmps77
  go_wp2
  go_ret
  exact ⟨by first | rfl | (simp; done) | (simp [*]; done), by repeat (first | exact Drawn0.refl _ | apply Drawn0.step)⟩
def r14_most.f (a0 : Int) : Option (Int) := if 0 ≤ a0 then (some (wrap64 ((shl .i64 1 a0) - 1))) else (none)
set_option maxHeartbeats 8000000 in
set_option maxRecDepth 100000 in
theorem r14_most.calls (a0 : Int) (r : Int) (w : World) (h : r14_most.f a0 = some r) :
  Calls Tryz.prog 78 #[.int .i64 a0] w fun e w' => e = .returned (.int .i64 r) ∧ Drawn0 w w' := by
 have H : (if 0 ≤ a0 then (some (wrap64 ((shl .i64 1 a0) - 1))) else (none)) = some r := h
 clear h
 by_cases c2 : 0 ≤ a0
 ·rw [if_pos c2] at H
  have c2b0 := eq_true c2
  have c2b1 : decide (0 ≤ a0) = true := decide_eq_true c2
  clear c2
  obtain ⟨ji3, hji3⟩ : ∃ j_ : Int, (shl .i64 1 a0) = j_ := ⟨_, rfl⟩
  replace H : (some (wrap64 ((ji3) - 1))) = some r := by first | (rw [hji3] at H; exact H) | (simp only [hji3] at H ⊢; exact H)
  have hji3_ : (IntKind.i64.wrap (1 * 2 ^ min a0.toNat 64)) = ji3 := hji3
  have hji3z : a0 ≤ 64 → (IntKind.i64.wrap (1 * 2 ^ a0.toNat)) = ji3 := shl_small hji3
  have hji3u : (IntKind.i64.wrap (2 ^ min a0.toNat 64)) = ji3 := by have h_ := hji3_; rw [Int.one_mul] at h_; exact h_
  have hji3v : a0 ≤ 64 → (IntKind.i64.wrap (2 ^ a0.toNat)) = ji3 := fun hle_ => by have h_ := hji3z hle_; rw [Int.one_mul] at h_; exact h_
  have hji3y : (wrap64 (1 * 2 ^ min a0.toNat 64)) = ji3 := (i64_w _).symm.trans hji3_
  have hji3x : a0 ≤ 64 → (wrap64 (1 * 2 ^ a0.toNat)) = ji3 := fun h_ => (i64_w _).symm.trans (hji3z h_)
  obtain rfl := Option.some.inj H
  go_enter Tryz.func78, Tryz.ntmps78
  go_wp2
  go_ret
  exact ⟨by first | rfl | (simp; done) | (simp only [← hji3] <;> (first | rfl | simp)) | (simp [*]; done), by repeat (first | exact Drawn0.refl _ | apply Drawn0.step)⟩
 ·rw [if_neg c2] at H
  exact absurd H (by simp)
mutual
def r14_Check.j0 : Nat → Bool → Int → Int → Int → List (List Int) → Option (Int)
 | 0, _, _, _, _, _ => none
 | k + 1, x28, x126000, x126001, x126002, x126003 => if x28 = true then (some 1) else (r14_Check.l0 k 0 x126000 x126001 x126002 x126003)
def r14_Check.l0 : Nat → Int → Int → Int → Int → List (List Int) → Option (Int)
 | 0, _, _, _, _, _ => none
 | k + 1, x3, x126000, x126001, x126002, x126003 => if x3 < (x126003.length : Int) then (if 0 ≤ x3 then (if ((rd_L1 x126003 x3).length : Int) = (wrap64 (x126000 * x126001)) then (r14_Check.l0 k (wrap64 (x3 + 1)) x126000 x126001 x126002 x126003) else (some 4)) else (none)) else (r14_Check.l1 k 0 x126000 x126001 x126002 x126003)
def r14_Check.l1 : Nat → Int → Int → Int → Int → List (List Int) → Option (Int)
 | 0, _, _, _, _, _ => none
 | k + 1, x4, x126000, x126001, x126002, x126003 => if x4 < (x126003.length : Int) then (r14_Check.l2 k x4 0 x126000 x126001 x126002 x126003) else (some 0)
def r14_Check.l2 : Nat → Int → Int → Int → Int → Int → List (List Int) → Option (Int)
 | 0, _, _, _, _, _, _ => none
 | k + 1, x4, x5, x126000, x126001, x126002, x126003 => if 0 ≤ x4 then (if x4 < (x126003.length : Int) then (if x5 < ((rd_L1 x126003 x4).length : Int) then (if 0 ≤ x5 then ((r14_most.f x126002).bind fun t134 => ((r14_in.f (rd (rd_L1 x126003 x4) x5) 0 t134).bind fun t135 => (if t135 = true then (r14_Check.l2 k x4 (wrap64 (x5 + 1)) x126000 x126001 x126002 x126003) else (some 1)))) else (none)) else (r14_Check.l1 k (wrap64 (x4 + 1)) x126000 x126001 x126002 x126003)) else (none)) else (none)
end
def r14_Check.f (k : Nat) (a0_0 : Int) (a0_1 : Int) (a0_2 : Int) (l0_3 : List (List Int)) : Option (Int) := (r14_in.f a0_0 1 64).bind fun t126 => (if t126 = true then ((r14_in.f a0_1 1 64).bind fun t127 => (if t127 = true then ((r14_in.f a0_2 1 12).bind fun t128 => (if t128 = true then ((r14_in.f (l0_3.length : Int) 1 4).bind fun t129 => (r14_Check.j0 k (!t129) a0_0 a0_1 a0_2 l0_3)) else (r14_Check.j0 k true a0_0 a0_1 a0_2 l0_3))) else (r14_Check.j0 k true a0_0 a0_1 a0_2 l0_3))) else (r14_Check.j0 k true a0_0 a0_1 a0_2 l0_3))
set_option maxHeartbeats 8000000 in
set_option maxRecDepth 100000 in
theorem r14_Check.calls (k : Nat) (a0_0 : Int) (a0_1 : Int) (a0_2 : Int) (A0_3 : Option Addr) (c0_3 : Nat) (l0_3 : List (List Int)) (r : Int) (w : World) (hr0_3 : Kd.C (Kd.slice 3 (Kd.int .i64)) w A0_3 l0_3.length l0_3) (hc0_3 : l0_3.length ≤ c0_3) (h : r14_Check.f k a0_0 a0_1 a0_2 l0_3 = some r) :
  Calls Tryz.prog 30 #[.agg #[.int .i64 a0_0, .int .i64 a0_1, .int .i64 a0_2, .slice A0_3 l0_3.length c0_3]] w fun e w' => e = .returned (.int .i64 r) ∧ Below w.heap.size w w' := by
 have hu24 := Tryz.underlying24
 have HR0_3 := As0.mk hr0_3
 have HC0_3 := As0.mk hc0_3
 clear hr0_3 hc0_3
 have HB := As0.mk (Below.refl w.heap.size w)
 have H : ((r14_in.f a0_0 1 64).bind fun t126 => (if t126 = true then ((r14_in.f a0_1 1 64).bind fun t127 => (if t127 = true then ((r14_in.f a0_2 1 12).bind fun t128 => (if t128 = true then ((r14_in.f (l0_3.length : Int) 1 4).bind fun t129 => (r14_Check.j0 k (!t129) a0_0 a0_1 a0_2 l0_3)) else (r14_Check.j0 k true a0_0 a0_1 a0_2 l0_3))) else (r14_Check.j0 k true a0_0 a0_1 a0_2 l0_3))) else (r14_Check.j0 k true a0_0 a0_1 a0_2 l0_3))) = some r := h
 clear h
 have HC2 := As0.mk H
 clear H
 go_enter Tryz.func30, Tryz.ntmps30
 go_upto_region 1 with (first | ((with_reducible refine gdt (N := 1) rfl ?_); (try (refine gate_guard (by rfl) ?_; dsimp only)); refine bxe ?hg (N := 1) ?hd (cs := #[.int .i64 a0_0, .int .i64 a0_1, .int .i64 a0_2, .slice A0_3 l0_3.length c0_3]) (t := 24) ?hr ?_; (case hd => rfl); (case hg => rfl); (case hr => first | (go_simp; done) | (go_simp; rfl)); intro gb125 hg w3 hbox hb; have n0_ := As0.mk (bwp (by repeat (first | (with_reducible first | exact HB.out | apply bwa | apply pwN | apply bwd) | exact HB.out)) hb); have n1_ := As0.mk (hbox); have n2_ := As0.mk ((by rw [hg]; exact (bwz (by repeat (first | (with_reducible first | exact HB.out | apply bwa | apply pwN | apply bwd) | exact HB.out))) : w.heap.size ≤ gb125)); have n3_ := As0.mk ((by rw [hg]; exact (bwz (by repeat (first | (with_reducible first | exact HB.out | apply bwa | apply pwN | apply bwd) | exact HB.out))) : w.heap.size ≤ gb125)); clear HB; have HB := n0_; have BK125 := n1_; have GW125 := n2_; have GE125 := n3_; clear n0_ n1_ n2_ n3_; clear hb hbox hg))
 repeat (go_quiet (first | ((with_reducible refine gdt (N := 1) rfl ?_); (try (refine gate_guard (by rfl) ?_; dsimp only)); refine bxe ?hg (N := 1) ?hd (cs := #[.int .i64 a0_0, .int .i64 a0_1, .int .i64 a0_2, .slice A0_3 l0_3.length c0_3]) (t := 24) ?hr ?_; (case hd => rfl); (case hg => rfl); (case hr => first | (go_simp; done) | (go_simp; rfl)); intro gb125 hg w3 hbox hb; have n0_ := As0.mk (bwp (by repeat (first | (with_reducible first | exact HB.out | apply bwa | apply pwN | apply bwd) | exact HB.out)) hb); have n1_ := As0.mk (hbox); have n2_ := As0.mk ((by rw [hg]; exact (bwz (by repeat (first | (with_reducible first | exact HB.out | apply bwa | apply pwN | apply bwd) | exact HB.out))) : w.heap.size ≤ gb125)); have n3_ := As0.mk ((by rw [hg]; exact (bwz (by repeat (first | (with_reducible first | exact HB.out | apply bwa | apply pwN | apply bwd) | exact HB.out))) : w.heap.size ≤ gb125)); clear HB; have HB := n0_; have BK125 := n1_; have GW125 := n2_; have GE125 := n3_; clear n0_ n1_ n2_ n3_; clear hb hbox hg)); go_upto_region 1 with (first | ((with_reducible refine gdt (N := 1) rfl ?_); (try (refine gate_guard (by rfl) ?_; dsimp only)); refine bxe ?hg (N := 1) ?hd (cs := #[.int .i64 a0_0, .int .i64 a0_1, .int .i64 a0_2, .slice A0_3 l0_3.length c0_3]) (t := 24) ?hr ?_; (case hd => rfl); (case hg => rfl); (case hr => first | (go_simp; done) | (go_simp; rfl)); intro gb125 hg w3 hbox hb; have n0_ := As0.mk (bwp (by repeat (first | (with_reducible first | exact HB.out | apply bwa | apply pwN | apply bwd) | exact HB.out)) hb); have n1_ := As0.mk (hbox); have n2_ := As0.mk ((by rw [hg]; exact (bwz (by repeat (first | (with_reducible first | exact HB.out | apply bwa | apply pwN | apply bwd) | exact HB.out))) : w.heap.size ≤ gb125)); have n3_ := As0.mk ((by rw [hg]; exact (bwz (by repeat (first | (with_reducible first | exact HB.out | apply bwa | apply pwN | apply bwd) | exact HB.out))) : w.heap.size ≤ gb125)); clear HB; have HB := n0_; have BK125 := n1_; have GW125 := n2_; have GE125 := n3_; clear n0_ n1_ n2_ n3_; clear hb hbox hg)))
 (try simp only [Act.put, List.setIfInBounds_toArray, List.set_cons_zero, List.set_cons_succ])
 go_cut [28] (fun v28 wc => ∃ (kq : Nat) (x28_1 : Bool), v28 = .bool x28_1 ∧ As0 (r14_Check.j0 kq x28_1 a0_0 a0_1 a0_2 l0_3 = some r) ∧ As0 (kq ≤ k) ∧ As0 (wc.heap[gb125]? = some (.cells #[.int .i64 a0_0, .int .i64 a0_1, .int .i64 a0_2, (.slice A0_3 l0_3.length c0_3)] 24 (0, 0))) ∧ As0 (Below w.heap.size w wc))
 case first =>
  have H := HC2.out
  clear HC2
  replace H := Option.bind_eq_some_iff.mp H
  obtain ⟨t126, A40, H⟩ := H
  replace H : (if t126 = true then ((r14_in.f a0_1 1 64).bind fun t127 => (if t127 = true then ((r14_in.f a0_2 1 12).bind fun t128 => (if t128 = true then ((r14_in.f (l0_3.length : Int) 1 4).bind fun t129 => (r14_Check.j0 k (!t129) a0_0 a0_1 a0_2 l0_3)) else (r14_Check.j0 k true a0_0 a0_1 a0_2 l0_3))) else (r14_Check.j0 k true a0_0 a0_1 a0_2 l0_3))) else (r14_Check.j0 k true a0_0 a0_1 a0_2 l0_3)) = some r := H
  have A4 := As0.mk A40
  clear A40
  by_cases c5 : t126 = true
  ·subst c5
   have H1 : ((r14_in.f a0_1 1 64).bind fun t127 => (if t127 = true then ((r14_in.f a0_2 1 12).bind fun t128 => (if t128 = true then ((r14_in.f (l0_3.length : Int) 1 4).bind fun t129 => (r14_Check.j0 k (!t129) a0_0 a0_1 a0_2 l0_3)) else (r14_Check.j0 k true a0_0 a0_1 a0_2 l0_3))) else (r14_Check.j0 k true a0_0 a0_1 a0_2 l0_3))) = some r := by rw [if_pos rfl] at H; exact H
   clear H
   have H := H1
   clear H1
   replace H := Option.bind_eq_some_iff.mp H
   obtain ⟨t127, A60, H⟩ := H
   replace H : (if t127 = true then ((r14_in.f a0_2 1 12).bind fun t128 => (if t128 = true then ((r14_in.f (l0_3.length : Int) 1 4).bind fun t129 => (r14_Check.j0 k (!t129) a0_0 a0_1 a0_2 l0_3)) else (r14_Check.j0 k true a0_0 a0_1 a0_2 l0_3))) else (r14_Check.j0 k true a0_0 a0_1 a0_2 l0_3)) = some r := H
   have A6 := As0.mk A60
   clear A60
   by_cases c7 : t127 = true
   ·subst c7
    have H1 : ((r14_in.f a0_2 1 12).bind fun t128 => (if t128 = true then ((r14_in.f (l0_3.length : Int) 1 4).bind fun t129 => (r14_Check.j0 k (!t129) a0_0 a0_1 a0_2 l0_3)) else (r14_Check.j0 k true a0_0 a0_1 a0_2 l0_3))) = some r := by rw [if_pos rfl] at H; exact H
    clear H
    have H := H1
    clear H1
    replace H := Option.bind_eq_some_iff.mp H
    obtain ⟨t128, A80, H⟩ := H
    replace H : (if t128 = true then ((r14_in.f (l0_3.length : Int) 1 4).bind fun t129 => (r14_Check.j0 k (!t129) a0_0 a0_1 a0_2 l0_3)) else (r14_Check.j0 k true a0_0 a0_1 a0_2 l0_3)) = some r := H
    have A8 := As0.mk A80
    clear A80
    by_cases c9 : t128 = true
    ·subst c9
     have H1 : ((r14_in.f (l0_3.length : Int) 1 4).bind fun t129 => (r14_Check.j0 k (!t129) a0_0 a0_1 a0_2 l0_3)) = some r := by rw [if_pos rfl] at H; exact H
     clear H
     have H := H1
     clear H1
     replace H := Option.bind_eq_some_iff.mp H
     obtain ⟨t129, A100, H⟩ := H
     replace H : (r14_Check.j0 k (!t129) a0_0 a0_1 a0_2 l0_3) = some r := H
     have A10 := As0.mk A100
     clear A100
     have H' := As0.mk H
     clear H
     have hcz11_0 : w3.cell? ⟨gb125, 0, none⟩ = some (.int .i64 a0_0) := (bkc BK125.out 0).trans rfl
     have hcz11_1 : w3.cell? ⟨gb125, 1, none⟩ = some (.int .i64 a0_1) := (bkc BK125.out 1).trans rfl
     have hcz11_2 : w3.cell? ⟨gb125, 2, none⟩ = some (.int .i64 a0_2) := (bkc BK125.out 2).trans rfl
     have hcz11_3 : w3.cell? ⟨gb125, 3, none⟩ = some (.slice A0_3 l0_3.length c0_3) := (bkc BK125.out 3).trans rfl
     have hfz11_0 := bkz BK125.out 0
     have hfz11_1 := bkz BK125.out 1
     have hfz11_2 := bkz BK125.out 2
     have hfz11_3 := bkz BK125.out 3
     go_wp2_with (first | (go_at_call 77; (with_reducible refine (r14_in.calls a0_0 1 64 true _ A4.out).mono ?_); rintro e w' ⟨rfl, ⟨nd, rfl⟩⟩; (try first | exact ⟨rfl, _, World.drewN_drewN _ _ _⟩ | exact ⟨rfl, _, Eq.trans (World.drewN_drewN _ _ _) (congrArg (World.drewN _) (Nat.add_assoc _ _ _))⟩)) | (go_at_call 77; (with_reducible refine (r14_in.calls a0_1 1 64 true _ A6.out).mono ?_); rintro e w' ⟨rfl, ⟨nd, rfl⟩⟩; (try first | exact ⟨rfl, _, World.drewN_drewN _ _ _⟩ | exact ⟨rfl, _, Eq.trans (World.drewN_drewN _ _ _) (congrArg (World.drewN _) (Nat.add_assoc _ _ _))⟩)) | (go_at_call 77; (with_reducible refine (r14_in.calls a0_2 1 12 true _ A8.out).mono ?_); rintro e w' ⟨rfl, ⟨nd, rfl⟩⟩; (try first | exact ⟨rfl, _, World.drewN_drewN _ _ _⟩ | exact ⟨rfl, _, Eq.trans (World.drewN_drewN _ _ _) (congrArg (World.drewN _) (Nat.add_assoc _ _ _))⟩)) | (go_at_call 77; (with_reducible refine (r14_in.calls (l0_3.length : Int) 1 4 t129 _ A10.out).mono ?_); rintro e w' ⟨rfl, ⟨nd, rfl⟩⟩; (try first | exact ⟨rfl, _, World.drewN_drewN _ _ _⟩ | exact ⟨rfl, _, Eq.trans (World.drewN_drewN _ _ _) (congrArg (World.drewN _) (Nat.add_assoc _ _ _))⟩)))
     repeat (go_quiet (first | (go_at_call 77; (with_reducible refine (r14_in.calls a0_0 1 64 true _ A4.out).mono ?_); rintro e w' ⟨rfl, ⟨nd, rfl⟩⟩; (try first | exact ⟨rfl, _, World.drewN_drewN _ _ _⟩ | exact ⟨rfl, _, Eq.trans (World.drewN_drewN _ _ _) (congrArg (World.drewN _) (Nat.add_assoc _ _ _))⟩)) | (go_at_call 77; (with_reducible refine (r14_in.calls a0_1 1 64 true _ A6.out).mono ?_); rintro e w' ⟨rfl, ⟨nd, rfl⟩⟩; (try first | exact ⟨rfl, _, World.drewN_drewN _ _ _⟩ | exact ⟨rfl, _, Eq.trans (World.drewN_drewN _ _ _) (congrArg (World.drewN _) (Nat.add_assoc _ _ _))⟩)) | (go_at_call 77; (with_reducible refine (r14_in.calls a0_2 1 12 true _ A8.out).mono ?_); rintro e w' ⟨rfl, ⟨nd, rfl⟩⟩; (try first | exact ⟨rfl, _, World.drewN_drewN _ _ _⟩ | exact ⟨rfl, _, Eq.trans (World.drewN_drewN _ _ _) (congrArg (World.drewN _) (Nat.add_assoc _ _ _))⟩)) | (go_at_call 77; (with_reducible refine (r14_in.calls (l0_3.length : Int) 1 4 t129 _ A10.out).mono ?_); rintro e w' ⟨rfl, ⟨nd, rfl⟩⟩; (try first | exact ⟨rfl, _, World.drewN_drewN _ _ _⟩ | exact ⟨rfl, _, Eq.trans (World.drewN_drewN _ _ _) (congrArg (World.drewN _) (Nat.add_assoc _ _ _))⟩))); try go_wp2_with (first | (go_at_call 77; (with_reducible refine (r14_in.calls a0_0 1 64 true _ A4.out).mono ?_); rintro e w' ⟨rfl, ⟨nd, rfl⟩⟩; (try first | exact ⟨rfl, _, World.drewN_drewN _ _ _⟩ | exact ⟨rfl, _, Eq.trans (World.drewN_drewN _ _ _) (congrArg (World.drewN _) (Nat.add_assoc _ _ _))⟩)) | (go_at_call 77; (with_reducible refine (r14_in.calls a0_1 1 64 true _ A6.out).mono ?_); rintro e w' ⟨rfl, ⟨nd, rfl⟩⟩; (try first | exact ⟨rfl, _, World.drewN_drewN _ _ _⟩ | exact ⟨rfl, _, Eq.trans (World.drewN_drewN _ _ _) (congrArg (World.drewN _) (Nat.add_assoc _ _ _))⟩)) | (go_at_call 77; (with_reducible refine (r14_in.calls a0_2 1 12 true _ A8.out).mono ?_); rintro e w' ⟨rfl, ⟨nd, rfl⟩⟩; (try first | exact ⟨rfl, _, World.drewN_drewN _ _ _⟩ | exact ⟨rfl, _, Eq.trans (World.drewN_drewN _ _ _) (congrArg (World.drewN _) (Nat.add_assoc _ _ _))⟩)) | (go_at_call 77; (with_reducible refine (r14_in.calls (l0_3.length : Int) 1 4 t129 _ A10.out).mono ?_); rintro e w' ⟨rfl, ⟨nd, rfl⟩⟩; (try first | exact ⟨rfl, _, World.drewN_drewN _ _ _⟩ | exact ⟨rfl, _, Eq.trans (World.drewN_drewN _ _ _) (congrArg (World.drewN _) (Nat.add_assoc _ _ _))⟩))))
     go_meet
     case rel => exact ⟨_, (!t129), (by first | rfl | (simp; done) | (simp [*]; done)), H', ⟨by first | omega | exact Nat.le_refl _⟩, ⟨by (with_reducible repeat (first | refine bkN ?_ _ | refine bkd ?_ | refine bka ?_ _)); exact BK125.out⟩, ⟨by repeat (first | (with_reducible first | exact HB.out | apply bwa | apply pwN | apply bwd | refine bws ?_ GE125.out) | exact HB.out)⟩⟩
    ·replace c9 := Bool.eq_false_iff.mpr c9
     subst c9
     have H1 : (r14_Check.j0 k true a0_0 a0_1 a0_2 l0_3) = some r := by rw [if_neg (show ¬ (false = true) by decide)] at H; exact H
     clear H
     have H := H1
     clear H1
     have H' := As0.mk H
     clear H
     have hcz12_0 : w3.cell? ⟨gb125, 0, none⟩ = some (.int .i64 a0_0) := (bkc BK125.out 0).trans rfl
     have hcz12_1 : w3.cell? ⟨gb125, 1, none⟩ = some (.int .i64 a0_1) := (bkc BK125.out 1).trans rfl
     have hcz12_2 : w3.cell? ⟨gb125, 2, none⟩ = some (.int .i64 a0_2) := (bkc BK125.out 2).trans rfl
     have hcz12_3 : w3.cell? ⟨gb125, 3, none⟩ = some (.slice A0_3 l0_3.length c0_3) := (bkc BK125.out 3).trans rfl
     have hfz12_0 := bkz BK125.out 0
     have hfz12_1 := bkz BK125.out 1
     have hfz12_2 := bkz BK125.out 2
     have hfz12_3 := bkz BK125.out 3
     go_wp2_with (first | (go_at_call 77; (with_reducible refine (r14_in.calls a0_0 1 64 true _ A4.out).mono ?_); rintro e w' ⟨rfl, ⟨nd, rfl⟩⟩; (try first | exact ⟨rfl, _, World.drewN_drewN _ _ _⟩ | exact ⟨rfl, _, Eq.trans (World.drewN_drewN _ _ _) (congrArg (World.drewN _) (Nat.add_assoc _ _ _))⟩)) | (go_at_call 77; (with_reducible refine (r14_in.calls a0_1 1 64 true _ A6.out).mono ?_); rintro e w' ⟨rfl, ⟨nd, rfl⟩⟩; (try first | exact ⟨rfl, _, World.drewN_drewN _ _ _⟩ | exact ⟨rfl, _, Eq.trans (World.drewN_drewN _ _ _) (congrArg (World.drewN _) (Nat.add_assoc _ _ _))⟩)) | (go_at_call 77; (with_reducible refine (r14_in.calls a0_2 1 12 false _ A8.out).mono ?_); rintro e w' ⟨rfl, ⟨nd, rfl⟩⟩; (try first | exact ⟨rfl, _, World.drewN_drewN _ _ _⟩ | exact ⟨rfl, _, Eq.trans (World.drewN_drewN _ _ _) (congrArg (World.drewN _) (Nat.add_assoc _ _ _))⟩)))
     repeat (go_quiet (first | (go_at_call 77; (with_reducible refine (r14_in.calls a0_0 1 64 true _ A4.out).mono ?_); rintro e w' ⟨rfl, ⟨nd, rfl⟩⟩; (try first | exact ⟨rfl, _, World.drewN_drewN _ _ _⟩ | exact ⟨rfl, _, Eq.trans (World.drewN_drewN _ _ _) (congrArg (World.drewN _) (Nat.add_assoc _ _ _))⟩)) | (go_at_call 77; (with_reducible refine (r14_in.calls a0_1 1 64 true _ A6.out).mono ?_); rintro e w' ⟨rfl, ⟨nd, rfl⟩⟩; (try first | exact ⟨rfl, _, World.drewN_drewN _ _ _⟩ | exact ⟨rfl, _, Eq.trans (World.drewN_drewN _ _ _) (congrArg (World.drewN _) (Nat.add_assoc _ _ _))⟩)) | (go_at_call 77; (with_reducible refine (r14_in.calls a0_2 1 12 false _ A8.out).mono ?_); rintro e w' ⟨rfl, ⟨nd, rfl⟩⟩; (try first | exact ⟨rfl, _, World.drewN_drewN _ _ _⟩ | exact ⟨rfl, _, Eq.trans (World.drewN_drewN _ _ _) (congrArg (World.drewN _) (Nat.add_assoc _ _ _))⟩))); try go_wp2_with (first | (go_at_call 77; (with_reducible refine (r14_in.calls a0_0 1 64 true _ A4.out).mono ?_); rintro e w' ⟨rfl, ⟨nd, rfl⟩⟩; (try first | exact ⟨rfl, _, World.drewN_drewN _ _ _⟩ | exact ⟨rfl, _, Eq.trans (World.drewN_drewN _ _ _) (congrArg (World.drewN _) (Nat.add_assoc _ _ _))⟩)) | (go_at_call 77; (with_reducible refine (r14_in.calls a0_1 1 64 true _ A6.out).mono ?_); rintro e w' ⟨rfl, ⟨nd, rfl⟩⟩; (try first | exact ⟨rfl, _, World.drewN_drewN _ _ _⟩ | exact ⟨rfl, _, Eq.trans (World.drewN_drewN _ _ _) (congrArg (World.drewN _) (Nat.add_assoc _ _ _))⟩)) | (go_at_call 77; (with_reducible refine (r14_in.calls a0_2 1 12 false _ A8.out).mono ?_); rintro e w' ⟨rfl, ⟨nd, rfl⟩⟩; (try first | exact ⟨rfl, _, World.drewN_drewN _ _ _⟩ | exact ⟨rfl, _, Eq.trans (World.drewN_drewN _ _ _) (congrArg (World.drewN _) (Nat.add_assoc _ _ _))⟩))))
     go_meet
     case rel => exact ⟨_, (true), (by first | rfl | (simp; done) | (simp [*]; done)), H', ⟨by first | omega | exact Nat.le_refl _⟩, ⟨by (with_reducible repeat (first | refine bkN ?_ _ | refine bkd ?_ | refine bka ?_ _)); exact BK125.out⟩, ⟨by repeat (first | (with_reducible first | exact HB.out | apply bwa | apply pwN | apply bwd | refine bws ?_ GE125.out) | exact HB.out)⟩⟩
   ·replace c7 := Bool.eq_false_iff.mpr c7
    subst c7
    have H1 : (r14_Check.j0 k true a0_0 a0_1 a0_2 l0_3) = some r := by rw [if_neg (show ¬ (false = true) by decide)] at H; exact H
    clear H
    have H := H1
    clear H1
    have H' := As0.mk H
    clear H
    have hcz13_0 : w3.cell? ⟨gb125, 0, none⟩ = some (.int .i64 a0_0) := (bkc BK125.out 0).trans rfl
    have hcz13_1 : w3.cell? ⟨gb125, 1, none⟩ = some (.int .i64 a0_1) := (bkc BK125.out 1).trans rfl
    have hcz13_2 : w3.cell? ⟨gb125, 2, none⟩ = some (.int .i64 a0_2) := (bkc BK125.out 2).trans rfl
    have hcz13_3 : w3.cell? ⟨gb125, 3, none⟩ = some (.slice A0_3 l0_3.length c0_3) := (bkc BK125.out 3).trans rfl
    have hfz13_0 := bkz BK125.out 0
    have hfz13_1 := bkz BK125.out 1
    have hfz13_2 := bkz BK125.out 2
    have hfz13_3 := bkz BK125.out 3
    go_wp2_with (first | (go_at_call 77; (with_reducible refine (r14_in.calls a0_0 1 64 true _ A4.out).mono ?_); rintro e w' ⟨rfl, ⟨nd, rfl⟩⟩; (try first | exact ⟨rfl, _, World.drewN_drewN _ _ _⟩ | exact ⟨rfl, _, Eq.trans (World.drewN_drewN _ _ _) (congrArg (World.drewN _) (Nat.add_assoc _ _ _))⟩)) | (go_at_call 77; (with_reducible refine (r14_in.calls a0_1 1 64 false _ A6.out).mono ?_); rintro e w' ⟨rfl, ⟨nd, rfl⟩⟩; (try first | exact ⟨rfl, _, World.drewN_drewN _ _ _⟩ | exact ⟨rfl, _, Eq.trans (World.drewN_drewN _ _ _) (congrArg (World.drewN _) (Nat.add_assoc _ _ _))⟩)))
    repeat (go_quiet (first | (go_at_call 77; (with_reducible refine (r14_in.calls a0_0 1 64 true _ A4.out).mono ?_); rintro e w' ⟨rfl, ⟨nd, rfl⟩⟩; (try first | exact ⟨rfl, _, World.drewN_drewN _ _ _⟩ | exact ⟨rfl, _, Eq.trans (World.drewN_drewN _ _ _) (congrArg (World.drewN _) (Nat.add_assoc _ _ _))⟩)) | (go_at_call 77; (with_reducible refine (r14_in.calls a0_1 1 64 false _ A6.out).mono ?_); rintro e w' ⟨rfl, ⟨nd, rfl⟩⟩; (try first | exact ⟨rfl, _, World.drewN_drewN _ _ _⟩ | exact ⟨rfl, _, Eq.trans (World.drewN_drewN _ _ _) (congrArg (World.drewN _) (Nat.add_assoc _ _ _))⟩))); try go_wp2_with (first | (go_at_call 77; (with_reducible refine (r14_in.calls a0_0 1 64 true _ A4.out).mono ?_); rintro e w' ⟨rfl, ⟨nd, rfl⟩⟩; (try first | exact ⟨rfl, _, World.drewN_drewN _ _ _⟩ | exact ⟨rfl, _, Eq.trans (World.drewN_drewN _ _ _) (congrArg (World.drewN _) (Nat.add_assoc _ _ _))⟩)) | (go_at_call 77; (with_reducible refine (r14_in.calls a0_1 1 64 false _ A6.out).mono ?_); rintro e w' ⟨rfl, ⟨nd, rfl⟩⟩; (try first | exact ⟨rfl, _, World.drewN_drewN _ _ _⟩ | exact ⟨rfl, _, Eq.trans (World.drewN_drewN _ _ _) (congrArg (World.drewN _) (Nat.add_assoc _ _ _))⟩))))
    go_meet
    case rel => exact ⟨_, (true), (by first | rfl | (simp; done) | (simp [*]; done)), H', ⟨by first | omega | exact Nat.le_refl _⟩, ⟨by (with_reducible repeat (first | refine bkN ?_ _ | refine bkd ?_ | refine bka ?_ _)); exact BK125.out⟩, ⟨by repeat (first | (with_reducible first | exact HB.out | apply bwa | apply pwN | apply bwd | refine bws ?_ GE125.out) | exact HB.out)⟩⟩
  ·replace c5 := Bool.eq_false_iff.mpr c5
   subst c5
   have H1 : (r14_Check.j0 k true a0_0 a0_1 a0_2 l0_3) = some r := by rw [if_neg (show ¬ (false = true) by decide)] at H; exact H
   clear H
   have H := H1
   clear H1
   have H' := As0.mk H
   clear H
   have hcz14_0 : w3.cell? ⟨gb125, 0, none⟩ = some (.int .i64 a0_0) := (bkc BK125.out 0).trans rfl
   have hcz14_1 : w3.cell? ⟨gb125, 1, none⟩ = some (.int .i64 a0_1) := (bkc BK125.out 1).trans rfl
   have hcz14_2 : w3.cell? ⟨gb125, 2, none⟩ = some (.int .i64 a0_2) := (bkc BK125.out 2).trans rfl
   have hcz14_3 : w3.cell? ⟨gb125, 3, none⟩ = some (.slice A0_3 l0_3.length c0_3) := (bkc BK125.out 3).trans rfl
   have hfz14_0 := bkz BK125.out 0
   have hfz14_1 := bkz BK125.out 1
   have hfz14_2 := bkz BK125.out 2
   have hfz14_3 := bkz BK125.out 3
   go_wp2_with (first | (go_at_call 77; (with_reducible refine (r14_in.calls a0_0 1 64 false _ A4.out).mono ?_); rintro e w' ⟨rfl, ⟨nd, rfl⟩⟩; (try first | exact ⟨rfl, _, World.drewN_drewN _ _ _⟩ | exact ⟨rfl, _, Eq.trans (World.drewN_drewN _ _ _) (congrArg (World.drewN _) (Nat.add_assoc _ _ _))⟩)))
   repeat (go_quiet (first | (go_at_call 77; (with_reducible refine (r14_in.calls a0_0 1 64 false _ A4.out).mono ?_); rintro e w' ⟨rfl, ⟨nd, rfl⟩⟩; (try first | exact ⟨rfl, _, World.drewN_drewN _ _ _⟩ | exact ⟨rfl, _, Eq.trans (World.drewN_drewN _ _ _) (congrArg (World.drewN _) (Nat.add_assoc _ _ _))⟩))); try go_wp2_with (first | (go_at_call 77; (with_reducible refine (r14_in.calls a0_0 1 64 false _ A4.out).mono ?_); rintro e w' ⟨rfl, ⟨nd, rfl⟩⟩; (try first | exact ⟨rfl, _, World.drewN_drewN _ _ _⟩ | exact ⟨rfl, _, Eq.trans (World.drewN_drewN _ _ _) (congrArg (World.drewN _) (Nat.add_assoc _ _ _))⟩))))
   go_meet
   case rel => exact ⟨_, (true), (by first | rfl | (simp; done) | (simp [*]; done)), H', ⟨by first | omega | exact Nat.le_refl _⟩, ⟨by (with_reducible repeat (first | refine bkN ?_ _ | refine bkd ?_ | refine bka ?_ _)); exact BK125.out⟩, ⟨by repeat (first | (with_reducible first | exact HB.out | apply bwa | apply pwN | apply bwd | refine bws ?_ GE125.out) | exact HB.out)⟩⟩
 case rest =>
  clear HC2
  try clear p2
  try clear c3
  try clear c5
  try clear c7
  try clear c9
  try clear hcz11_0
  try clear hcz11_1
  try clear hcz11_2
  try clear hcz11_3
  try clear hcz12_0
  try clear hcz12_1
  try clear hcz12_2
  try clear hcz12_3
  try clear hcz13_0
  try clear hcz13_1
  try clear hcz13_2
  try clear hcz13_3
  try clear hcz14_0
  try clear hcz14_1
  try clear hcz14_2
  try clear hcz14_3
  try clear hfz11_0
  try clear hfz11_1
  try clear hfz11_2
  try clear hfz11_3
  try clear hfz12_0
  try clear hfz12_1
  try clear hfz12_2
  try clear hfz12_3
  try clear hfz13_0
  try clear hfz13_1
  try clear hfz13_2
  try clear hfz13_3
  try clear hfz14_0
  try clear hfz14_1
  try clear hfz14_2
  try clear hfz14_3
  obtain ⟨kq, x28_1, rfl, HA, HJ1, BK125, HB⟩ := hcut
  cases kq with
  | zero => exact absurd HA.out (by simp [r14_Check.j0])
  | succ kj1 =>
   have H := HA.out
   clear HA
   simp only [r14_Check.j0] at H
   by_cases c15 : x28_1 = true
   ·subst c15
    have H1 : (some 1) = some r := by rw [if_pos rfl] at H; exact H
    clear H
    have H := H1
    clear H1
    obtain rfl := Option.some.inj H
    go_wp2
    repeat (go_quiet (fail); try go_wp2)
    go_ret
    exact ⟨by first | rfl | (simp [errW_none, errW_some] <;> rfl) | (simp [*, errW_none, errW_some] <;> rfl), by repeat (first | (with_reducible first | exact HB.out | apply bwa | apply pwN | apply bwd | refine bws ?_ GE125.out) | exact HB.out)⟩
   ·replace c15 := Bool.eq_false_iff.mpr c15
    subst c15
    have H1 : (r14_Check.l0 kj1 0 a0_0 a0_1 a0_2 l0_3) = some r := by rw [if_neg (show ¬ (false = true) by decide)] at H; exact H
    clear H
    have H := H1
    clear H1
    have H' := As0.mk H
    clear H
    go_wp2
    repeat (go_quiet (fail); try go_wp2)
    go_loopg [3] kj1 (fun kq v3 w' => ∃ (x3_2 : Int), v3 = .int .i64 x3_2 ∧ As0 (r14_Check.l0 kq x3_2 a0_0 a0_1 a0_2 l0_3 = some r) ∧ As0 (kq ≤ kj1) ∧ As0 (w'.heap[gb125]? = some (.cells #[.int .i64 a0_0, .int .i64 a0_1, .int .i64 a0_2, (.slice A0_3 l0_3.length c0_3)] 24 (0, 0))) ∧ As0 (Below w.heap.size w w'))
    case atStart => exact ⟨(0), (by first | rfl | (simp; done) | (simp [*]; done)), H', ⟨Nat.le_refl _⟩, ⟨by (with_reducible repeat (first | refine bkN ?_ _ | refine bkd ?_ | refine bka ?_ _)); exact BK125.out⟩, ⟨by repeat (first | (with_reducible first | exact HB.out | apply bwa | apply pwN | apply bwd | refine bws ?_ GE125.out) | exact HB.out)⟩⟩
    case round =>
     clear H'
     try clear c1
     try clear p2
     try clear c3
     try clear c5
     try clear c7
     try clear c9
     try clear c15
     try clear hcz11_0
     try clear hcz11_1
     try clear hcz11_2
     try clear hcz11_3
     try clear hcz12_0
     try clear hcz12_1
     try clear hcz12_2
     try clear hcz12_3
     try clear hcz13_0
     try clear hcz13_1
     try clear hcz13_2
     try clear hcz13_3
     try clear hcz14_0
     try clear hcz14_1
     try clear hcz14_2
     try clear hcz14_3
     try clear hfz11_0
     try clear hfz11_1
     try clear hfz11_2
     try clear hfz11_3
     try clear hfz12_0
     try clear hfz12_1
     try clear hfz12_2
     try clear hfz12_3
     try clear hfz13_0
     try clear hfz13_1
     try clear hfz13_2
     try clear hfz13_3
     try clear hfz14_0
     try clear hfz14_1
     try clear hfz14_2
     try clear hfz14_3
     try clear p2
     obtain ⟨x3_2, rfl, HA, HK2, BK125, HB⟩ := hrel
     cases gk with
     | zero => exact absurd HA.out (by simp [r14_Check.l0])
     | succ k2 =>
      have H := HA.out
      clear HA
      simp only [r14_Check.l0] at H
      by_cases c16 : x3_2 < (l0_3.length : Int)
      ·rw [if_pos c16] at H
       have c16b0 : decide (x3_2 < (l0_3.length : Int)) = true := decide_eq_true c16
       clear c16
       by_cases c17 : 0 ≤ x3_2
       ·rw [if_pos c17] at H
        have c17b0 : decide (0 ≤ x3_2) = true := decide_eq_true c17
        clear c17
        by_cases c18 : ((rd_L1 l0_3 x3_2).length : Int) = (wrap64 (a0_0 * a0_1))
        ·rw [if_pos c18] at H
         have c18b0 : (((rd_L1 l0_3 x3_2).length : Int) == (wrap64 (a0_0 * a0_1))) = true := beq_iff_eq.mpr c18
         have c18b1 : (((rd_L1 l0_3 x3_2).length : Int) != (wrap64 (a0_0 * a0_1))) = false := bne_eq_false_iff_eq.mpr c18
         clear c18
         have H' := As0.mk H
         clear H
         have hcz19_0 : wr.cell? ⟨gb125, 0, none⟩ = some (.int .i64 a0_0) := (bkc BK125.out 0).trans rfl
         have hcz19_1 : wr.cell? ⟨gb125, 1, none⟩ = some (.int .i64 a0_1) := (bkc BK125.out 1).trans rfl
         have hcz19_2 : wr.cell? ⟨gb125, 2, none⟩ = some (.int .i64 a0_2) := (bkc BK125.out 2).trans rfl
         have hcz19_3 : wr.cell? ⟨gb125, 3, none⟩ = some (.slice A0_3 l0_3.length c0_3) := (bkc BK125.out 3).trans rfl
         have hfz19_0 := bkz BK125.out 0
         have hfz19_1 := bkz BK125.out 1
         have hfz19_2 := bkz BK125.out 2
         have hfz19_3 := bkz BK125.out 3
         have p130 : 0 ≤ (x3_2 : Int) := of_decide_eq_true (by first | (with_reducible assumption) | assumption)
         have q130 : x3_2 < (l0_3.length : Int) := of_decide_eq_true (by first | (with_reducible assumption) | assumption)
         obtain ⟨ad130, A130_0, c130_0, e130, hx130_0, hl130_0, hi130_0⟩ := at_L1 HR0_3.out x3_2 p130 q130
         cases e130
         replace hx130_0 := (HB.out.cell (World.block_lt_of_cell? w _ hx130_0)).trans hx130_0
         have HR130_0 := As0.mk hi130_0
         have HC130_0 := As0.mk hl130_0
         clear hi130_0 hl130_0
         replace p130 := eq_true p130
         replace q130 := eq_true q130
         go_wp2
         repeat (go_quiet (fail); try go_wp2)
         go_roundg k2
         case measure => have := HJ1.out; have := HK2.out; omega
         case rel => exact ⟨(wrap64 (x3_2 + 1)), (by first | rfl | (simp; done) | (simp [*]; done)), H', ⟨by have := HJ1.out; have := HK2.out; omega⟩, ⟨by (with_reducible repeat (first | refine bkN ?_ _ | refine bkd ?_ | refine bka ?_ _)); exact BK125.out⟩, ⟨by repeat (first | (with_reducible first | exact HB.out | apply bwa | apply pwN | apply bwd | refine bws ?_ GE125.out) | exact HB.out)⟩⟩
        ·rw [if_neg c18] at H
         have c18b0 : (((rd_L1 l0_3 x3_2).length : Int) == (wrap64 (a0_0 * a0_1))) = false := beq_eq_false_iff_ne.mpr c18
         have c18b1 : (((rd_L1 l0_3 x3_2).length : Int) != (wrap64 (a0_0 * a0_1))) = true := bne_iff_ne.mpr c18
         obtain rfl := Option.some.inj H
         have hcz20_0 : wr.cell? ⟨gb125, 0, none⟩ = some (.int .i64 a0_0) := (bkc BK125.out 0).trans rfl
         have hcz20_1 : wr.cell? ⟨gb125, 1, none⟩ = some (.int .i64 a0_1) := (bkc BK125.out 1).trans rfl
         have hcz20_2 : wr.cell? ⟨gb125, 2, none⟩ = some (.int .i64 a0_2) := (bkc BK125.out 2).trans rfl
         have hcz20_3 : wr.cell? ⟨gb125, 3, none⟩ = some (.slice A0_3 l0_3.length c0_3) := (bkc BK125.out 3).trans rfl
         have hfz20_0 := bkz BK125.out 0
         have hfz20_1 := bkz BK125.out 1
         have hfz20_2 := bkz BK125.out 2
         have hfz20_3 := bkz BK125.out 3
         have p130 : 0 ≤ (x3_2 : Int) := of_decide_eq_true (by first | (with_reducible assumption) | assumption)
         have q130 : x3_2 < (l0_3.length : Int) := of_decide_eq_true (by first | (with_reducible assumption) | assumption)
         obtain ⟨ad130, A130_0, c130_0, e130, hx130_0, hl130_0, hi130_0⟩ := at_L1 HR0_3.out x3_2 p130 q130
         cases e130
         replace hx130_0 := (HB.out.cell (World.block_lt_of_cell? w _ hx130_0)).trans hx130_0
         have HR130_0 := As0.mk hi130_0
         have HC130_0 := As0.mk hl130_0
         clear hi130_0 hl130_0
         replace p130 := eq_true p130
         replace q130 := eq_true q130
         go_wp2
         repeat (go_quiet (fail); try go_wp2)
         go_ret
         exact ⟨by first | rfl | (simp [errW_none, errW_some] <;> rfl) | (simp [*, errW_none, errW_some] <;> rfl), by repeat (first | (with_reducible first | exact HB.out | apply bwa | apply pwN | apply bwd | refine bws ?_ GE125.out) | exact HB.out)⟩
       ·rw [if_neg c17] at H
        exact absurd H (by simp)
      ·rw [if_neg c16] at H
       have c16b0 : decide (x3_2 < (l0_3.length : Int)) = false := decide_eq_false c16
       clear c16
       have H' := As0.mk H
       clear H
       have hcz21_0 : wr.cell? ⟨gb125, 0, none⟩ = some (.int .i64 a0_0) := (bkc BK125.out 0).trans rfl
       have hcz21_1 : wr.cell? ⟨gb125, 1, none⟩ = some (.int .i64 a0_1) := (bkc BK125.out 1).trans rfl
       have hcz21_2 : wr.cell? ⟨gb125, 2, none⟩ = some (.int .i64 a0_2) := (bkc BK125.out 2).trans rfl
       have hcz21_3 : wr.cell? ⟨gb125, 3, none⟩ = some (.slice A0_3 l0_3.length c0_3) := (bkc BK125.out 3).trans rfl
       have hfz21_0 := bkz BK125.out 0
       have hfz21_1 := bkz BK125.out 1
       have hfz21_2 := bkz BK125.out 2
       have hfz21_3 := bkz BK125.out 3
       go_wp2
       repeat (go_quiet (fail); try go_wp2)
       go_loopg [4] k2 (fun kq v4 w' => ∃ (x4_3 : Int), v4 = .int .i64 x4_3 ∧ As0 (r14_Check.l1 kq x4_3 a0_0 a0_1 a0_2 l0_3 = some r) ∧ As0 (kq ≤ k2) ∧ As0 (w'.heap[gb125]? = some (.cells #[.int .i64 a0_0, .int .i64 a0_1, .int .i64 a0_2, (.slice A0_3 l0_3.length c0_3)] 24 (0, 0))) ∧ As0 (Below w.heap.size w w'))
       case atStart => exact ⟨(0), (by first | rfl | (simp; done) | (simp [*]; done)), H', ⟨Nat.le_refl _⟩, ⟨by (with_reducible repeat (first | refine bkN ?_ _ | refine bkd ?_ | refine bka ?_ _)); exact BK125.out⟩, ⟨by repeat (first | (with_reducible first | exact HB.out | apply bwa | apply pwN | apply bwd | refine bws ?_ GE125.out) | exact HB.out)⟩⟩
       case round =>
        clear H'
        try clear c1
        try clear p1
        try clear q1
        try clear hx1
        try clear p2
        try clear c3
        try clear c5
        try clear p6
        try clear c7
        try clear c9
        try clear c13
        try clear p13
        try clear q13
        try clear hx13
        try clear c15
        try clear c16
        try clear c16b0
        try clear c17
        try clear c17b0
        try clear c18
        try clear c18b0
        try clear c18b1
        try clear hcz11_0
        try clear hcz11_1
        try clear hcz11_2
        try clear hcz11_3
        try clear hcz12_0
        try clear hcz12_1
        try clear hcz12_2
        try clear hcz12_3
        try clear hcz13_0
        try clear hcz13_1
        try clear hcz13_2
        try clear hcz13_3
        try clear hcz14_0
        try clear hcz14_1
        try clear hcz14_2
        try clear hcz14_3
        try clear hcz19_0
        try clear hcz19_1
        try clear hcz19_2
        try clear hcz19_3
        try clear hcz20_0
        try clear hcz20_1
        try clear hcz20_2
        try clear hcz20_3
        try clear hcz21_0
        try clear hcz21_1
        try clear hcz21_2
        try clear hcz21_3
        try clear hfz11_0
        try clear hfz11_1
        try clear hfz11_2
        try clear hfz11_3
        try clear hfz12_0
        try clear hfz12_1
        try clear hfz12_2
        try clear hfz12_3
        try clear hfz13_0
        try clear hfz13_1
        try clear hfz13_2
        try clear hfz13_3
        try clear hfz14_0
        try clear hfz14_1
        try clear hfz14_2
        try clear hfz14_3
        try clear hfz19_0
        try clear hfz19_1
        try clear hfz19_2
        try clear hfz19_3
        try clear hfz20_0
        try clear hfz20_1
        try clear hfz20_2
        try clear hfz20_3
        try clear hfz21_0
        try clear hfz21_1
        try clear hfz21_2
        try clear hfz21_3
        try clear hx130_0
        try clear p130
        try clear p2
        try clear q130
        obtain ⟨x4_3, rfl, HA, HK3, BK125, HB⟩ := hrel
        cases gk with
        | zero => exact absurd HA.out (by simp [r14_Check.l1])
        | succ k3 =>
         have H := HA.out
         clear HA
         simp only [r14_Check.l1] at H
         by_cases c22 : x4_3 < (l0_3.length : Int)
         ·rw [if_pos c22] at H
          have c22b0 : decide (x4_3 < (l0_3.length : Int)) = true := decide_eq_true c22
          clear c22
          have H' := As0.mk H
          clear H
          have hcz23_0 : wr.cell? ⟨gb125, 0, none⟩ = some (.int .i64 a0_0) := (bkc BK125.out 0).trans rfl
          have hcz23_1 : wr.cell? ⟨gb125, 1, none⟩ = some (.int .i64 a0_1) := (bkc BK125.out 1).trans rfl
          have hcz23_2 : wr.cell? ⟨gb125, 2, none⟩ = some (.int .i64 a0_2) := (bkc BK125.out 2).trans rfl
          have hcz23_3 : wr.cell? ⟨gb125, 3, none⟩ = some (.slice A0_3 l0_3.length c0_3) := (bkc BK125.out 3).trans rfl
          have hfz23_0 := bkz BK125.out 0
          have hfz23_1 := bkz BK125.out 1
          have hfz23_2 := bkz BK125.out 2
          have hfz23_3 := bkz BK125.out 3
          go_wp2
          repeat (go_quiet (fail); try go_wp2)
          go_loopg [5] k3 (fun kq v5 w' => ∃ (x5_4 : Int), v5 = .int .i64 x5_4 ∧ As0 (r14_Check.l2 kq x4_3 x5_4 a0_0 a0_1 a0_2 l0_3 = some r) ∧ As0 (kq ≤ k3) ∧ As0 (w'.heap[gb125]? = some (.cells #[.int .i64 a0_0, .int .i64 a0_1, .int .i64 a0_2, (.slice A0_3 l0_3.length c0_3)] 24 (0, 0))) ∧ As0 (Below w.heap.size w w'))
          case atStart => exact ⟨(0), (by first | rfl | (simp; done) | (simp [*]; done)), H', ⟨Nat.le_refl _⟩, ⟨by (with_reducible repeat (first | refine bkN ?_ _ | refine bkd ?_ | refine bka ?_ _)); exact BK125.out⟩, ⟨by repeat (first | (with_reducible first | exact HB.out | apply bwa | apply pwN | apply bwd | refine bws ?_ GE125.out) | exact HB.out)⟩⟩
          case round =>
           clear H'
           try clear c1
           try clear p1
           try clear q1
           try clear hx1
           try clear c2
           try clear p2
           try clear c3
           try clear c5
           try clear p6
           try clear c7
           try clear c9
           try clear c13
           try clear p13
           try clear q13
           try clear hx13
           try clear c15
           try clear c16
           try clear c16b0
           try clear c17
           try clear c17b0
           try clear c18
           try clear c18b0
           try clear c18b1
           try clear c22
           try clear c22b0
           try clear hcz11_0
           try clear hcz11_1
           try clear hcz11_2
           try clear hcz11_3
           try clear hcz12_0
           try clear hcz12_1
           try clear hcz12_2
           try clear hcz12_3
           try clear hcz13_0
           try clear hcz13_1
           try clear hcz13_2
           try clear hcz13_3
           try clear hcz14_0
           try clear hcz14_1
           try clear hcz14_2
           try clear hcz14_3
           try clear hcz19_0
           try clear hcz19_1
           try clear hcz19_2
           try clear hcz19_3
           try clear hcz20_0
           try clear hcz20_1
           try clear hcz20_2
           try clear hcz20_3
           try clear hcz21_0
           try clear hcz21_1
           try clear hcz21_2
           try clear hcz21_3
           try clear hcz23_0
           try clear hcz23_1
           try clear hcz23_2
           try clear hcz23_3
           try clear hfz11_0
           try clear hfz11_1
           try clear hfz11_2
           try clear hfz11_3
           try clear hfz12_0
           try clear hfz12_1
           try clear hfz12_2
           try clear hfz12_3
           try clear hfz13_0
           try clear hfz13_1
           try clear hfz13_2
           try clear hfz13_3
           try clear hfz14_0
           try clear hfz14_1
           try clear hfz14_2
           try clear hfz14_3
           try clear hfz19_0
           try clear hfz19_1
           try clear hfz19_2
           try clear hfz19_3
           try clear hfz20_0
           try clear hfz20_1
           try clear hfz20_2
           try clear hfz20_3
           try clear hfz21_0
           try clear hfz21_1
           try clear hfz21_2
           try clear hfz21_3
           try clear hfz23_0
           try clear hfz23_1
           try clear hfz23_2
           try clear hfz23_3
           try clear hx130_0
           try clear p1
           try clear p13
           try clear p130
           try clear p2
           try clear p6
           try clear q1
           try clear q13
           try clear q130
           obtain ⟨x5_4, rfl, HA, HK4, BK125, HB⟩ := hrel
           cases gk with
           | zero => exact absurd HA.out (by simp [r14_Check.l2])
           | succ k4 =>
            have H := HA.out
            clear HA
            simp only [r14_Check.l2] at H
            by_cases c24 : 0 ≤ x4_3
            ·rw [if_pos c24] at H
             have c24b0 : decide (0 ≤ x4_3) = true := decide_eq_true c24
             clear c24
             by_cases c25 : x4_3 < (l0_3.length : Int)
             ·rw [if_pos c25] at H
              have c25b0 : decide (x4_3 < (l0_3.length : Int)) = true := decide_eq_true c25
              clear c25
              by_cases c26 : x5_4 < ((rd_L1 l0_3 x4_3).length : Int)
              ·rw [if_pos c26] at H
               have c26b0 : decide (x5_4 < ((rd_L1 l0_3 x4_3).length : Int)) = true := decide_eq_true c26
               clear c26
               by_cases c27 : 0 ≤ x5_4
               ·rw [if_pos c27] at H
                have c27b0 : decide (0 ≤ x5_4) = true := decide_eq_true c27
                clear c27
                replace H := Option.bind_eq_some_iff.mp H
                obtain ⟨t134, A280, H⟩ := H
                replace H : ((r14_in.f (rd (rd_L1 l0_3 x4_3) x5_4) 0 t134).bind fun t135 => (if t135 = true then (r14_Check.l2 k4 x4_3 (wrap64 (x5_4 + 1)) a0_0 a0_1 a0_2 l0_3) else (some 1))) = some r := H
                have A28 := As0.mk A280
                clear A280
                replace H := Option.bind_eq_some_iff.mp H
                obtain ⟨t135, A290, H⟩ := H
                replace H : (if t135 = true then (r14_Check.l2 k4 x4_3 (wrap64 (x5_4 + 1)) a0_0 a0_1 a0_2 l0_3) else (some 1)) = some r := H
                have A29 := As0.mk A290
                clear A290
                by_cases c30 : t135 = true
                ·subst c30
                 have H1 : (r14_Check.l2 k4 x4_3 (wrap64 (x5_4 + 1)) a0_0 a0_1 a0_2 l0_3) = some r := by rw [if_pos rfl] at H; exact H
                 clear H
                 have H := H1
                 clear H1
                 have H' := As0.mk H
                 clear H
                 have hcz31_0 : wr.cell? ⟨gb125, 0, none⟩ = some (.int .i64 a0_0) := (bkc BK125.out 0).trans rfl
                 have hcz31_1 : wr.cell? ⟨gb125, 1, none⟩ = some (.int .i64 a0_1) := (bkc BK125.out 1).trans rfl
                 have hcz31_2 : wr.cell? ⟨gb125, 2, none⟩ = some (.int .i64 a0_2) := (bkc BK125.out 2).trans rfl
                 have hcz31_3 : wr.cell? ⟨gb125, 3, none⟩ = some (.slice A0_3 l0_3.length c0_3) := (bkc BK125.out 3).trans rfl
                 have hfz31_0 := bkz BK125.out 0
                 have hfz31_1 := bkz BK125.out 1
                 have hfz31_2 := bkz BK125.out 2
                 have hfz31_3 := bkz BK125.out 3
                 have p131 : 0 ≤ (x4_3 : Int) := of_decide_eq_true (by first | (with_reducible assumption) | assumption)
                 have q131 : x4_3 < (l0_3.length : Int) := of_decide_eq_true (by first | (with_reducible assumption) | assumption)
                 obtain ⟨ad131, A131_0, c131_0, e131, hx131_0, hl131_0, hi131_0⟩ := at_L1 HR0_3.out x4_3 p131 q131
                 cases e131
                 replace hx131_0 := (HB.out.cell (World.block_lt_of_cell? w _ hx131_0)).trans hx131_0
                 have HR131_0 := As0.mk hi131_0
                 have HC131_0 := As0.mk hl131_0
                 clear hi131_0 hl131_0
                 replace p131 := eq_true p131
                 replace q131 := eq_true q131
                 have p132 : 0 ≤ (x4_3 : Int) := of_decide_eq_true (by first | (with_reducible assumption) | assumption)
                 have q132 : x4_3 < (l0_3.length : Int) := of_decide_eq_true (by first | (with_reducible assumption) | assumption)
                 obtain ⟨ad132, A132_0, c132_0, e132, hx132_0, hl132_0, hi132_0⟩ := at_L1 HR0_3.out x4_3 p132 q132
                 obtain rfl : ad131 = ad132 := (by injection e132)
                 replace hx132_0 := (HB.out.cell (World.block_lt_of_cell? w _ hx132_0)).trans hx132_0
                 have HR132_0 := As0.mk hi132_0
                 have HC132_0 := As0.mk hl132_0
                 clear hi132_0 hl132_0
                 replace p132 := eq_true p132
                 replace q132 := eq_true q132
                 have ea_ := Option.some.inj (hx131_0.symm.trans hx132_0)
                 injection ea_ with ea_ en_ ec_
                 subst ea_
                 subst ec_
                 clear en_
                 have p133 : 0 ≤ (x5_4 : Int) := of_decide_eq_true (by first | (with_reducible assumption) | assumption)
                 have q133 : x5_4 < ((rd_L1 l0_3 x4_3).length : Int) := of_decide_eq_true (by first | (with_reducible assumption) | assumption)
                 obtain ⟨ad133, e133, hx133_0⟩ := Kd.at_int HR132_0.out x5_4 p133 q133
                 cases e133
                 replace hx133_0 := (HB.out.cell (World.block_lt_of_cell? w _ hx133_0)).trans hx133_0
                 replace p133 := eq_true p133
                 replace q133 := eq_true q133
                 go_wp2_with (first | (go_at_call 78; (with_reducible refine (r14_most.calls a0_2 t134 _ A28.out).mono ?_); rintro e w' ⟨rfl, ⟨nd, rfl⟩⟩; (try first | exact ⟨rfl, _, World.drewN_drewN _ _ _⟩ | exact ⟨rfl, _, Eq.trans (World.drewN_drewN _ _ _) (congrArg (World.drewN _) (Nat.add_assoc _ _ _))⟩)) | (go_at_call 77; (with_reducible refine (r14_in.calls (rd (rd_L1 l0_3 x4_3) x5_4) 0 t134 true _ A29.out).mono ?_); rintro e w' ⟨rfl, ⟨nd, rfl⟩⟩; (try first | exact ⟨rfl, _, World.drewN_drewN _ _ _⟩ | exact ⟨rfl, _, Eq.trans (World.drewN_drewN _ _ _) (congrArg (World.drewN _) (Nat.add_assoc _ _ _))⟩)))
                 repeat (go_quiet (first | (go_at_call 78; (with_reducible refine (r14_most.calls a0_2 t134 _ A28.out).mono ?_); rintro e w' ⟨rfl, ⟨nd, rfl⟩⟩; (try first | exact ⟨rfl, _, World.drewN_drewN _ _ _⟩ | exact ⟨rfl, _, Eq.trans (World.drewN_drewN _ _ _) (congrArg (World.drewN _) (Nat.add_assoc _ _ _))⟩)) | (go_at_call 77; (with_reducible refine (r14_in.calls (rd (rd_L1 l0_3 x4_3) x5_4) 0 t134 true _ A29.out).mono ?_); rintro e w' ⟨rfl, ⟨nd, rfl⟩⟩; (try first | exact ⟨rfl, _, World.drewN_drewN _ _ _⟩ | exact ⟨rfl, _, Eq.trans (World.drewN_drewN _ _ _) (congrArg (World.drewN _) (Nat.add_assoc _ _ _))⟩))); try go_wp2_with (first | (go_at_call 78; (with_reducible refine (r14_most.calls a0_2 t134 _ A28.out).mono ?_); rintro e w' ⟨rfl, ⟨nd, rfl⟩⟩; (try first | exact ⟨rfl, _, World.drewN_drewN _ _ _⟩ | exact ⟨rfl, _, Eq.trans (World.drewN_drewN _ _ _) (congrArg (World.drewN _) (Nat.add_assoc _ _ _))⟩)) | (go_at_call 77; (with_reducible refine (r14_in.calls (rd (rd_L1 l0_3 x4_3) x5_4) 0 t134 true _ A29.out).mono ?_); rintro e w' ⟨rfl, ⟨nd, rfl⟩⟩; (try first | exact ⟨rfl, _, World.drewN_drewN _ _ _⟩ | exact ⟨rfl, _, Eq.trans (World.drewN_drewN _ _ _) (congrArg (World.drewN _) (Nat.add_assoc _ _ _))⟩))))
                 go_roundg k4
                 case measure => have := HJ1.out; have := HK2.out; have := HK3.out; have := HK4.out; omega
                 case rel => exact ⟨(wrap64 (x5_4 + 1)), (by first | rfl | (simp; done) | (simp [*]; done)), H', ⟨by have := HJ1.out; have := HK2.out; have := HK3.out; have := HK4.out; omega⟩, ⟨by (with_reducible repeat (first | refine bkN ?_ _ | refine bkd ?_ | refine bka ?_ _)); exact BK125.out⟩, ⟨by repeat (first | (with_reducible first | exact HB.out | apply bwa | apply pwN | apply bwd | refine bws ?_ GE125.out) | exact HB.out)⟩⟩
                ·replace c30 := Bool.eq_false_iff.mpr c30
                 subst c30
                 have H1 : (some 1) = some r := by rw [if_neg (show ¬ (false = true) by decide)] at H; exact H
                 clear H
                 have H := H1
                 clear H1
                 obtain rfl := Option.some.inj H
                 have hcz32_0 : wr.cell? ⟨gb125, 0, none⟩ = some (.int .i64 a0_0) := (bkc BK125.out 0).trans rfl
                 have hcz32_1 : wr.cell? ⟨gb125, 1, none⟩ = some (.int .i64 a0_1) := (bkc BK125.out 1).trans rfl
                 have hcz32_2 : wr.cell? ⟨gb125, 2, none⟩ = some (.int .i64 a0_2) := (bkc BK125.out 2).trans rfl
                 have hcz32_3 : wr.cell? ⟨gb125, 3, none⟩ = some (.slice A0_3 l0_3.length c0_3) := (bkc BK125.out 3).trans rfl
                 have hfz32_0 := bkz BK125.out 0
                 have hfz32_1 := bkz BK125.out 1
                 have hfz32_2 := bkz BK125.out 2
                 have hfz32_3 := bkz BK125.out 3
                 have p131 : 0 ≤ (x4_3 : Int) := of_decide_eq_true (by first | (with_reducible assumption) | assumption)
                 have q131 : x4_3 < (l0_3.length : Int) := of_decide_eq_true (by first | (with_reducible assumption) | assumption)
                 obtain ⟨ad131, A131_0, c131_0, e131, hx131_0, hl131_0, hi131_0⟩ := at_L1 HR0_3.out x4_3 p131 q131
                 cases e131
                 replace hx131_0 := (HB.out.cell (World.block_lt_of_cell? w _ hx131_0)).trans hx131_0
                 have HR131_0 := As0.mk hi131_0
                 have HC131_0 := As0.mk hl131_0
                 clear hi131_0 hl131_0
                 replace p131 := eq_true p131
                 replace q131 := eq_true q131
                 have p132 : 0 ≤ (x4_3 : Int) := of_decide_eq_true (by first | (with_reducible assumption) | assumption)
                 have q132 : x4_3 < (l0_3.length : Int) := of_decide_eq_true (by first | (with_reducible assumption) | assumption)
                 obtain ⟨ad132, A132_0, c132_0, e132, hx132_0, hl132_0, hi132_0⟩ := at_L1 HR0_3.out x4_3 p132 q132
                 obtain rfl : ad131 = ad132 := (by injection e132)
                 replace hx132_0 := (HB.out.cell (World.block_lt_of_cell? w _ hx132_0)).trans hx132_0
                 have HR132_0 := As0.mk hi132_0
                 have HC132_0 := As0.mk hl132_0
                 clear hi132_0 hl132_0
                 replace p132 := eq_true p132
                 replace q132 := eq_true q132
                 have ea_ := Option.some.inj (hx131_0.symm.trans hx132_0)
                 injection ea_ with ea_ en_ ec_
                 subst ea_
                 subst ec_
                 clear en_
                 have p133 : 0 ≤ (x5_4 : Int) := of_decide_eq_true (by first | (with_reducible assumption) | assumption)
                 have q133 : x5_4 < ((rd_L1 l0_3 x4_3).length : Int) := of_decide_eq_true (by first | (with_reducible assumption) | assumption)
                 obtain ⟨ad133, e133, hx133_0⟩ := Kd.at_int HR132_0.out x5_4 p133 q133
                 cases e133
                 replace hx133_0 := (HB.out.cell (World.block_lt_of_cell? w _ hx133_0)).trans hx133_0
                 replace p133 := eq_true p133
                 replace q133 := eq_true q133
                 go_wp2_with (first | (go_at_call 78; (with_reducible refine (r14_most.calls a0_2 t134 _ A28.out).mono ?_); rintro e w' ⟨rfl, ⟨nd, rfl⟩⟩; (try first | exact ⟨rfl, _, World.drewN_drewN _ _ _⟩ | exact ⟨rfl, _, Eq.trans (World.drewN_drewN _ _ _) (congrArg (World.drewN _) (Nat.add_assoc _ _ _))⟩)) | (go_at_call 77; (with_reducible refine (r14_in.calls (rd (rd_L1 l0_3 x4_3) x5_4) 0 t134 false _ A29.out).mono ?_); rintro e w' ⟨rfl, ⟨nd, rfl⟩⟩; (try first | exact ⟨rfl, _, World.drewN_drewN _ _ _⟩ | exact ⟨rfl, _, Eq.trans (World.drewN_drewN _ _ _) (congrArg (World.drewN _) (Nat.add_assoc _ _ _))⟩)))
                 repeat (go_quiet (first | (go_at_call 78; (with_reducible refine (r14_most.calls a0_2 t134 _ A28.out).mono ?_); rintro e w' ⟨rfl, ⟨nd, rfl⟩⟩; (try first | exact ⟨rfl, _, World.drewN_drewN _ _ _⟩ | exact ⟨rfl, _, Eq.trans (World.drewN_drewN _ _ _) (congrArg (World.drewN _) (Nat.add_assoc _ _ _))⟩)) | (go_at_call 77; (with_reducible refine (r14_in.calls (rd (rd_L1 l0_3 x4_3) x5_4) 0 t134 false _ A29.out).mono ?_); rintro e w' ⟨rfl, ⟨nd, rfl⟩⟩; (try first | exact ⟨rfl, _, World.drewN_drewN _ _ _⟩ | exact ⟨rfl, _, Eq.trans (World.drewN_drewN _ _ _) (congrArg (World.drewN _) (Nat.add_assoc _ _ _))⟩))); try go_wp2_with (first | (go_at_call 78; (with_reducible refine (r14_most.calls a0_2 t134 _ A28.out).mono ?_); rintro e w' ⟨rfl, ⟨nd, rfl⟩⟩; (try first | exact ⟨rfl, _, World.drewN_drewN _ _ _⟩ | exact ⟨rfl, _, Eq.trans (World.drewN_drewN _ _ _) (congrArg (World.drewN _) (Nat.add_assoc _ _ _))⟩)) | (go_at_call 77; (with_reducible refine (r14_in.calls (rd (rd_L1 l0_3 x4_3) x5_4) 0 t134 false _ A29.out).mono ?_); rintro e w' ⟨rfl, ⟨nd, rfl⟩⟩; (try first | exact ⟨rfl, _, World.drewN_drewN _ _ _⟩ | exact ⟨rfl, _, Eq.trans (World.drewN_drewN _ _ _) (congrArg (World.drewN _) (Nat.add_assoc _ _ _))⟩))))
                 go_ret
                 exact ⟨by first | rfl | (simp [errW_none, errW_some] <;> rfl) | (simp [*, errW_none, errW_some] <;> rfl), by repeat (first | (with_reducible first | exact HB.out | apply bwa | apply pwN | apply bwd | refine bws ?_ GE125.out) | exact HB.out)⟩
               ·rw [if_neg c27] at H
                exact absurd H (by simp)
              ·rw [if_neg c26] at H
               have c26b0 : decide (x5_4 < ((rd_L1 l0_3 x4_3).length : Int)) = false := decide_eq_false c26
               clear c26
               have H' := As0.mk H
               clear H
               have hcz33_0 : wr.cell? ⟨gb125, 0, none⟩ = some (.int .i64 a0_0) := (bkc BK125.out 0).trans rfl
               have hcz33_1 : wr.cell? ⟨gb125, 1, none⟩ = some (.int .i64 a0_1) := (bkc BK125.out 1).trans rfl
               have hcz33_2 : wr.cell? ⟨gb125, 2, none⟩ = some (.int .i64 a0_2) := (bkc BK125.out 2).trans rfl
               have hcz33_3 : wr.cell? ⟨gb125, 3, none⟩ = some (.slice A0_3 l0_3.length c0_3) := (bkc BK125.out 3).trans rfl
               have hfz33_0 := bkz BK125.out 0
               have hfz33_1 := bkz BK125.out 1
               have hfz33_2 := bkz BK125.out 2
               have hfz33_3 := bkz BK125.out 3
               have p131 : 0 ≤ (x4_3 : Int) := of_decide_eq_true (by first | (with_reducible assumption) | assumption)
               have q131 : x4_3 < (l0_3.length : Int) := of_decide_eq_true (by first | (with_reducible assumption) | assumption)
               obtain ⟨ad131, A131_0, c131_0, e131, hx131_0, hl131_0, hi131_0⟩ := at_L1 HR0_3.out x4_3 p131 q131
               cases e131
               replace hx131_0 := (HB.out.cell (World.block_lt_of_cell? w _ hx131_0)).trans hx131_0
               have HR131_0 := As0.mk hi131_0
               have HC131_0 := As0.mk hl131_0
               clear hi131_0 hl131_0
               replace p131 := eq_true p131
               replace q131 := eq_true q131
               go_wp2
               repeat (go_quiet (fail); try go_wp2)
               go_roundg k4
               case measure => have := HJ1.out; have := HK2.out; have := HK3.out; have := HK4.out; omega
               case rel => exact ⟨(wrap64 (x4_3 + 1)), (by first | rfl | (simp; done) | (simp [*]; done)), H', ⟨by have := HJ1.out; have := HK2.out; have := HK3.out; have := HK4.out; omega⟩, ⟨by (with_reducible repeat (first | refine bkN ?_ _ | refine bkd ?_ | refine bka ?_ _)); exact BK125.out⟩, ⟨by repeat (first | (with_reducible first | exact HB.out | apply bwa | apply pwN | apply bwd | refine bws ?_ GE125.out) | exact HB.out)⟩⟩
             ·rw [if_neg c25] at H
              exact absurd H (by simp)
            ·rw [if_neg c24] at H
             exact absurd H (by simp)
         ·rw [if_neg c22] at H
          have c22b0 : decide (x4_3 < (l0_3.length : Int)) = false := decide_eq_false c22
          clear c22
          obtain rfl := Option.some.inj H
          have hcz34_0 : wr.cell? ⟨gb125, 0, none⟩ = some (.int .i64 a0_0) := (bkc BK125.out 0).trans rfl
          have hcz34_1 : wr.cell? ⟨gb125, 1, none⟩ = some (.int .i64 a0_1) := (bkc BK125.out 1).trans rfl
          have hcz34_2 : wr.cell? ⟨gb125, 2, none⟩ = some (.int .i64 a0_2) := (bkc BK125.out 2).trans rfl
          have hcz34_3 : wr.cell? ⟨gb125, 3, none⟩ = some (.slice A0_3 l0_3.length c0_3) := (bkc BK125.out 3).trans rfl
          have hfz34_0 := bkz BK125.out 0
          have hfz34_1 := bkz BK125.out 1
          have hfz34_2 := bkz BK125.out 2
          have hfz34_3 := bkz BK125.out 3
          go_wp2
          repeat (go_quiet (fail); try go_wp2)
          go_ret
          exact ⟨by first | rfl | (simp [errW_none, errW_some] <;> rfl) | (simp [*, errW_none, errW_some] <;> rfl), by repeat (first | (with_reducible first | exact HB.out | apply bwa | apply pwN | apply bwd | refine bws ?_ GE125.out) | exact HB.out)⟩
def item_within.f (a0 : Int) (a1 : Int) (a2 : Int) : Option (Bool) := if a0 ≥ a1 then (some (decide (a0 ≤ a2))) else (some false)
set_option maxHeartbeats 8000000 in
set_option maxRecDepth 100000 in
theorem item_within.calls (a0 : Int) (a1 : Int) (a2 : Int) (r : Bool) (w : World) (h : item_within.f a0 a1 a2 = some r) :
  Calls Tryz.prog 48 #[.int .i64 a0, .int .i64 a1, .int .i64 a2] w fun e w' => e = .returned (.bool r) ∧ Drawn0 w w' := by
 have H : (if a0 ≥ a1 then (some (decide (a0 ≤ a2))) else (some false)) = some r := h
 clear h
 by_cases c4 : a0 ≥ a1
 ·rw [if_pos c4] at H
  have c4b0 : decide (a1 ≤ a0) = true := decide_eq_true c4
  clear c4
  obtain rfl := Option.some.inj H
  go_enter Tryz.func48, Tryz.ntmps48
  go_wp2
  go_ret
  exact ⟨by first | rfl | (simp; done) | (simp [*]; done), by repeat (first | exact Drawn0.refl _ | apply Drawn0.step)⟩
 ·rw [if_neg c4] at H
  have c4b0 : decide (a1 ≤ a0) = false := decide_eq_false c4
  clear c4
  obtain rfl := Option.some.inj H
  go_enter Tryz.func48, Tryz.ntmps48
  go_wp2
  go_ret
  exact ⟨by first | rfl | (simp; done) | (simp [*]; done), by repeat (first | exact Drawn0.refl _ | apply Drawn0.step)⟩
def idxAux {α : Type} (p : α → Bool) : List α → Nat → Int
 | [], _ => -1
 | x :: xs, i => if p x then (i : Int) else idxAux p xs (i + 1)
def idxOf {α : Type} (p : α → Bool) (xs : List α) : Int := idxAux p xs 0
theorem idxOf_step {α : Type} (p : α → Bool) (xs : List α) (i : Nat) (x : α) (h : xs[i]? = some x) : idxAux p (xs.drop i) i = if p x then (i : Int) else idxAux p (xs.drop (i + 1)) (i + 1) := by
 obtain ⟨hl, he⟩ := List.getElem?_eq_some_iff.1 h
 rw [List.drop_eq_getElem_cons hl, he]
 rfl
theorem idxOf_end {α : Type} (p : α → Bool) (xs : List α) (i : Nat) (h : xs.length ≤ i) : idxAux p (xs.drop i) i = -1 := by
 rw [List.drop_eq_nil_of_le h]
 rfl
structure PredIn (P : Program) (g : FuncId) (caps : Array Value) {α : Type} (enc : World → α → Value → Prop) (p : α → Bool) (w : World) : Prop where
 enters : ∀ (args : Array Value) (W : World), (callFunc g args).run P W = .ok (.enter g args) W
 tells : ∀ (W : World) (x : α) (v : Value), Below w.heap.size w W → enc W x v → Calls P g (#[v] ++ caps) W fun e w' => e = .returned (.bool (p x)) ∧ Below W.heap.size W w'
theorem pwt {w w1 w2 : World} (h : Below w.heap.size w w1) (k : Below w1.heap.size w1 w2) : Below w.heap.size w w2 := below_then h h.size k
theorem wrap64_id (n : Int) (h0 : -9223372036854775808 ≤ n) (h1 : n ≤ 9223372036854775807) : wrap64 n = n := by unfold wrap64; omega
set_option maxHeartbeats 8000000 in
set_option maxRecDepth 100000 in
theorem IndexFunc_int.calls (g : FuncId) (caps : Array Value) (p : Int → Bool) (A0 : Option Addr) (c0 : Nat) (l0 : List Int) (w : World) (hr0 : Kd.C (Kd.int .i64) w A0 l0.length l0)
  (hp : PredIn Tryz.prog g caps (fun _ (x : Int) v => v = .int .i64 x) p w) :
  Calls Tryz.prog 113 #[.slice A0 l0.length c0, .func (.func g) #[] caps] w fun e w' => e = .returned (.int .i64 (idxOf p l0)) ∧ Below w.heap.size w w' := by
 have HR0 := As0.mk hr0
 have hlen := As0.mk hr0.2.1
 clear hr0
 have HB := As0.mk (Below.refl w.heap.size w)
 have HP := As0.mk hp
 have hen := hp.enters
 clear hp
 have HI : As0 (0 ≤ (0 : Int) ∧ (0 : Int) + (l0.length : Nat) = l0.length ∧ idxAux p (l0.drop (0 : Int).toNat) (0 : Int).toNat = idxOf p l0) := ⟨by omega, by omega, rfl⟩
 go_enter Tryz.func113, Tryz.ntmps113
 go_wp2
 go_loopg [8] l0.length (fun kq v8 w' => ∃ i : Int, v8 = .int .i64 i ∧ As0 (0 ≤ i ∧ i + kq = l0.length ∧ idxAux p (l0.drop i.toNat) i.toNat = idxOf p l0) ∧ As0 (Below w.heap.size w w'))
 case atStart => exact ⟨0, rfl, HI, HB⟩
 case round =>
  clear HI HB
  obtain ⟨i, rfl, HI, HB⟩ := hrel
  cases gk with
  | zero =>
   have hge : decide (i < (l0.length : Int)) = false := by have := HI.out; simp; omega
   go_wp2
   go_ret
   exact ⟨by rw [← HI.out.2.2, idxOf_end p l0 i.toNat (by have := HI.out; omega)]; rfl, HB.out⟩
  | succ k1 =>
   have h0 : 0 ≤ i := by have := HI.out; omega
   have h1 : i < (l0.length : Int) := by have := HI.out; omega
   have hge : decide (i < (l0.length : Int)) = true := decide_eq_true h1
   have hg0 : decide (0 ≤ i) = true := decide_eq_true h0
   obtain ⟨ad, e0, hc⟩ := ReadsInt.at_ (Kd.reads_of_C (d := 0) HR0.out : ReadsInt w .i64 A0 l0.length l0) i h0 h1
   cases e0
   replace hc := (HB.out.cell (World.block_lt_of_cell? w _ hc)).trans hc
   have hx : As0 (l0[i.toNat]? = some (rd l0 i)) := ⟨by
    have hl : i.toNat < l0.length := by omega
    simp [rd, List.getElem?_eq_getElem hl, List.getD_eq_getElem?_getD]⟩
   have HC := As0.mk (HP.out.tells wr (rd l0 i) _ HB.out rfl)
   generalize rd l0 i = x at *
   replace h0 := eq_true h0
   replace h1 := eq_true h1
   cases hpx : p x with
   | true =>
    have HPX := As0.mk hpx
    rw [hpx] at HC
    clear hpx
    go_wp2_with (refine HC.out.mono ?_; rintro e w' ⟨rfl, hb⟩; have HB2 := As0.mk hb; clear hb)
    go_ret
    have h2 := HI.out.2.2
    exact ⟨by rw [← h2, idxOf_step p l0 i.toNat x hx.out, if_pos HPX.out, Int.toNat_of_nonneg HI.out.1]; rfl, (pwt HB.out HB2.out)⟩
   | false =>
    have HPX := As0.mk hpx
    rw [hpx] at HC
    clear hpx
    go_wp2_with (refine HC.out.mono ?_; rintro e w' ⟨rfl, hb⟩; have HB2 := As0.mk hb; clear hb)
    go_roundg k1
    case measure => omega
    case rel =>
     have hw : wrap64 (i + 1) = i + 1 := by have := HI.out; have := hlen.out; unfold wrap64; omega
     have h2 := HI.out.2.2
     refine ⟨i + 1, congrArg _ hw, ⟨by have := HI.out; omega, by have := HI.out; omega, ?_⟩, ⟨pwt HB.out HB2.out⟩⟩
     rw [← h2, idxOf_step p l0 i.toNat x hx.out, if_neg (by simp [HPX.out]), show (i + 1).toNat = i.toNat + 1 from by have := HI.out; omega]
set_option maxHeartbeats 8000000 in
set_option maxRecDepth 100000 in
theorem IndexFunc_rows.calls (g : FuncId) (caps : Array Value) (p : List Int → Bool) (A0 : Option Addr) (c0 : Nat) (l0 : List (List Int)) (w : World) (hr0 : Kd.C (Kd.slice 3 (Kd.int .i64)) w A0 l0.length l0)
  (hp : PredIn Tryz.prog g caps (fun W (x : List Int) v => ∃ A c, v = .slice A x.length c ∧ x.length ≤ c ∧ Kd.C (Kd.int .i64) W A x.length x) p w) :
  Calls Tryz.prog 157 #[.slice A0 l0.length c0, .func (.func g) #[] caps] w fun e w' => e = .returned (.int .i64 (idxOf p l0)) ∧ Below w.heap.size w w' := by
 have HR0 := As0.mk hr0
 have hlen := As0.mk hr0.2.1
 clear hr0
 have HB := As0.mk (Below.refl w.heap.size w)
 have HP := As0.mk hp
 have hen := hp.enters
 clear hp
 have HI : As0 (0 ≤ (0 : Int) ∧ (0 : Int) + (l0.length : Nat) = l0.length ∧ idxAux p (l0.drop (0 : Int).toNat) (0 : Int).toNat = idxOf p l0) := ⟨by omega, by omega, rfl⟩
 go_enter Tryz.func157, Tryz.ntmps157
 go_wp2
 go_loopg [8] l0.length (fun kq v8 w' => ∃ i : Int, v8 = .int .i64 i ∧ As0 (0 ≤ i ∧ i + kq = l0.length ∧ idxAux p (l0.drop i.toNat) i.toNat = idxOf p l0) ∧ As0 (Below w.heap.size w w'))
 case atStart => exact ⟨0, rfl, HI, HB⟩
 case round =>
  clear HI HB
  obtain ⟨i, rfl, HI, HB⟩ := hrel
  cases gk with
  | zero =>
   have hge : decide (i < (l0.length : Int)) = false := by have := HI.out; simp; omega
   go_wp2
   go_ret
   exact ⟨by rw [← HI.out.2.2, idxOf_end p l0 i.toNat (by have := HI.out; omega)]; rfl, HB.out⟩
  | succ k1 =>
   have h0 : 0 ≤ i := by have := HI.out; omega
   have h1 : i < (l0.length : Int) := by have := HI.out; omega
   have hge : decide (i < (l0.length : Int)) = true := decide_eq_true h1
   have hg0 : decide (0 ≤ i) = true := decide_eq_true h0
   obtain ⟨ad, A1, c1, e0, hc, hl1, hi1⟩ := at_L1 HR0.out i h0 h1
   cases e0
   replace hc := (HB.out.cell (World.block_lt_of_cell? w _ hc)).trans hc
   have hx : As0 (l0[i.toNat]? = some (rd_L1 l0 i)) := ⟨by
    have hl : i.toNat < l0.length := by omega
    simp [rd_L1, List.getElem?_eq_getElem hl, List.getD_eq_getElem?_getD]⟩
   have HC := As0.mk (HP.out.tells wr (rd_L1 l0 i) _ HB.out ⟨A1, c1, rfl, hl1, Kd.C_below hi1 HB.out⟩)
   clear hl1 hi1
   generalize rd_L1 l0 i = x at *
   replace h0 := eq_true h0
   replace h1 := eq_true h1
   cases hpx : p x with
   | true =>
    have HPX := As0.mk hpx
    rw [hpx] at HC
    clear hpx
    go_wp2_with (refine HC.out.mono ?_; rintro e w' ⟨rfl, hb⟩; have HB2 := As0.mk hb; clear hb)
    go_ret
    have h2 := HI.out.2.2
    exact ⟨by rw [← h2, idxOf_step p l0 i.toNat x hx.out, if_pos HPX.out, Int.toNat_of_nonneg HI.out.1]; rfl, (pwt HB.out HB2.out)⟩
   | false =>
    have HPX := As0.mk hpx
    rw [hpx] at HC
    clear hpx
    go_wp2_with (refine HC.out.mono ?_; rintro e w' ⟨rfl, hb⟩; have HB2 := As0.mk hb; clear hb)
    go_roundg k1
    case measure => omega
    case rel =>
     have hw : wrap64 (i + 1) = i + 1 := by have := HI.out; have := hlen.out; unfold wrap64; omega
     have h2 := HI.out.2.2
     refine ⟨i + 1, congrArg _ hw, ⟨by have := HI.out; omega, by have := HI.out; omega, ?_⟩, ⟨pwt HB.out HB2.out⟩⟩
     rw [← h2, idxOf_step p l0 i.toNat x hx.out, if_neg (by simp [HPX.out]), show (i + 1).toNat = i.toNat + 1 from by have := HI.out; omega]
def picture_within.f (a0 : Int) (a1 : Int) (a2 : Int) : Option (Bool) := if a0 ≥ a1 then (some (decide (a0 ≤ a2))) else (some false)
set_option maxHeartbeats 8000000 in
set_option maxRecDepth 100000 in
theorem picture_within.calls (a0 : Int) (a1 : Int) (a2 : Int) (r : Bool) (w : World) (h : picture_within.f a0 a1 a2 = some r) :
  Calls Tryz.prog 103 #[.int .i64 a0, .int .i64 a1, .int .i64 a2] w fun e w' => e = .returned (.bool r) ∧ Drawn0 w w' := by
 have H : (if a0 ≥ a1 then (some (decide (a0 ≤ a2))) else (some false)) = some r := h
 clear h
 by_cases c4 : a0 ≥ a1
 ·rw [if_pos c4] at H
  have c4b0 : decide (a1 ≤ a0) = true := decide_eq_true c4
  clear c4
  obtain rfl := Option.some.inj H
  go_enter Tryz.func103, Tryz.ntmps103
  go_wp2
  go_ret
  exact ⟨by first | rfl | (simp; done) | (simp [*]; done), by repeat (first | exact Drawn0.refl _ | apply Drawn0.step)⟩
 ·rw [if_neg c4] at H
  have c4b0 : decide (a1 ≤ a0) = false := decide_eq_false c4
  clear c4
  obtain rfl := Option.some.inj H
  go_enter Tryz.func103, Tryz.ntmps103
  go_wp2
  go_ret
  exact ⟨by first | rfl | (simp; done) | (simp [*]; done), by repeat (first | exact Drawn0.refl _ | apply Drawn0.step)⟩
theorem idxAux_any {α : Type} (p : α → Bool) (xs : List α) (i : Nat) : decide (0 ≤ idxAux p xs i) = xs.any p := by
 induction xs generalizing i with
 | nil => rfl
 | cons x xs ih =>
  cases h : p x with
  | true => simp [idxAux, h]
  | false => simp [idxAux, h, ← ih (i + 1)]
theorem idxOf_any {α : Type} (p : α → Bool) (xs : List α) : decide (idxOf p xs ≥ 0) = xs.any p := idxAux_any p xs 0
set_option maxHeartbeats 8000000 in
set_option maxRecDepth 100000 in
theorem ContainsFunc_int.calls (g : FuncId) (caps : Array Value) (p : Int → Bool) (A0 : Option Addr) (c0 : Nat) (l0 : List Int) (w : World) (hr0 : Kd.C (Kd.int .i64) w A0 l0.length l0)
  (hp : PredIn Tryz.prog g caps (fun _ (x : Int) v => v = .int .i64 x) p w) :
  Calls Tryz.prog 56 #[.slice A0 l0.length c0, .func (.func g) #[] caps] w fun e w' => e = .returned (.bool (l0.any p)) ∧ Below w.heap.size w w' := by
 have HC := As0.mk (IndexFunc_int.calls g caps p A0 c0 l0 w hr0 hp)
 clear hr0 hp
 rw [← idxOf_any]
 go_enter Tryz.func56, Tryz.ntmps56
 go_wp2_with (refine HC.out.mono ?_; rintro e w' ⟨rfl, hb⟩; have HB2 := As0.mk hb; clear hb)
 go_ret
 exact ⟨rfl, HB2.out⟩
set_option maxHeartbeats 8000000 in
set_option maxRecDepth 100000 in
theorem ContainsFunc_rows.calls (g : FuncId) (caps : Array Value) (p : List Int → Bool) (A0 : Option Addr) (c0 : Nat) (l0 : List (List Int)) (w : World) (hr0 : Kd.C (Kd.slice 3 (Kd.int .i64)) w A0 l0.length l0)
  (hp : PredIn Tryz.prog g caps (fun W (x : List Int) v => ∃ A c, v = .slice A x.length c ∧ x.length ≤ c ∧ Kd.C (Kd.int .i64) W A x.length x) p w) :
  Calls Tryz.prog 104 #[.slice A0 l0.length c0, .func (.func g) #[] caps] w fun e w' => e = .returned (.bool (l0.any p)) ∧ Below w.heap.size w w' := by
 have HC := As0.mk (IndexFunc_rows.calls g caps p A0 c0 l0 w hr0 hp)
 clear hr0 hp
 rw [← idxOf_any]
 go_enter Tryz.func104, Tryz.ntmps104
 go_wp2_with (refine HC.out.mono ?_; rintro e w' ⟨rfl, hb⟩; have HB2 := As0.mk hb; clear hb)
 go_ret
 exact ⟨rfl, HB2.out⟩
def btw (a b c : Int) : Bool := decide (b ≤ a) && decide (a ≤ c)
theorem within_f (a b c : Int) : picture_within.f a b c = some (btw a b c) := by
 unfold picture_within.f btw
 split
 ·rename_i h; simp [h]
 ·rename_i h; simp [show ¬ b ≤ a from h]
theorem within_any (a b c : Int) (w : World) : Calls Tryz.prog 103 #[.int .i64 a, .int .i64 b, .int .i64 c] w fun e w' => e = .returned (.bool (btw a b c)) ∧ Drawn0 w w' := picture_within.calls a b c _ w (within_f a b c)
theorem enters_105 : ∀ (args : Array Value) (W : World), (callFunc 105 args).run Tryz.prog W = .ok (.enter 105 args) W := enters_of Tryz.func105 (by kernel_rfl) rfl
theorem enters_106 : ∀ (args : Array Value) (W : World), (callFunc 106 args).run Tryz.prog W = .ok (.enter 106 args) W := enters_of Tryz.func106 (by kernel_rfl) rfl
set_option maxHeartbeats 8000000 in
set_option maxRecDepth 100000 in
theorem check1_any (A : Option Addr) (n c g : Nat) (a0 a1 a2 : Int) (v3 : Value) (w : World) (hg : w.heap[g]? = some (.cells #[.int .i64 a0, .int .i64 a1, .int .i64 a2, v3] 24 (0, 0))) :
  Calls Tryz.prog 105 #[.slice A n c, .pointer (some ⟨g, 0, none⟩)] w fun e w' => e = .returned (.bool ((n : Int) != wrap64 (a0 * a1))) ∧ Drawn0 w w' := by
 have hu24 := Tryz.underlying24
 have h0 := (bkc hg 0).trans rfl
 have h1 := (bkc hg 1).trans rfl
 clear hg
 go_enter Tryz.func105, Tryz.ntmps105
 go_wp2
 go_ret
 exact ⟨rfl, Drawn0.refl _⟩
set_option maxHeartbeats 8000000 in
set_option maxRecDepth 100000 in
theorem check2_any (x : Int) (g : Nat) (a0 a1 a2 : Int) (v3 : Value) (w : World) (hg : w.heap[g]? = some (.cells #[.int .i64 a0, .int .i64 a1, .int .i64 a2, v3] 24 (0, 0))) (hb : btw a2 1 12 = true) :
  Calls Tryz.prog 106 #[.int .i64 x, .pointer (some ⟨g, 0, none⟩)] w fun e w' => e = .returned (.bool (!(btw x 0 (2 ^ a2.toNat - 1)))) ∧ Below w.heap.size w w' := by
 have hu24 := Tryz.underlying24
 have h2 := (bkc hg 2).trans rfl
 clear hg
 simp only [btw, Bool.and_eq_true, decide_eq_true_eq] at hb
 obtain ⟨b1, b2⟩ := hb
 go_enter Tryz.func106, Tryz.ntmps106
 have hw : As0 (wrap64 (wrap64 (2 ^ a2.toNat) - 1) = 2 ^ a2.toNat - 1) := ⟨by
  have : a2 = 1 ∨ a2 = 2 ∨ a2 = 3 ∨ a2 = 4 ∨ a2 = 5 ∨ a2 = 6 ∨ a2 = 7 ∨ a2 = 8 ∨ a2 = 9 ∨ a2 = 10 ∨ a2 = 11 ∨ a2 = 12 := by omega
  rcases this with rfl | rfl | rfl | rfl | rfl | rfl | rfl | rfl | rfl | rfl | rfl | rfl <;> (rw [wrap64_id (2 ^ _) (by decide) (by decide), wrap64_id _ (by decide) (by decide)])⟩
 go_wp2_with (rw [hw.out]; refine (within_any _ _ _ _).mono ?_; rintro e w' ⟨rfl, hd⟩; have HD := As0.mk hd; clear hd)
 go_ret
 exact ⟨rfl, HD.out.below⟩
theorem within_is (a b c : Int) (v : Bool) (h : btw a b c = v) (w : World) : Calls Tryz.prog 103 #[.int .i64 a, .int .i64 b, .int .i64 c] w fun e w' => e = .returned (.bool v) ∧ Drawn0 w w' := h ▸ within_any a b c w
def okPlanes (bits : Int) (l : List (List Int)) : Bool := l.all fun p => !p.any fun v => !(btw v 0 (2 ^ bits.toNat - 1))
def picture_Check.f (a0_0 : Int) (a0_1 : Int) (a0_2 : Int) (l0_3 : List (List Int)) : Option Int :=
 some (if (btw a0_0 1 64 && btw a0_1 1 64 && btw a0_2 1 12 && btw (l0_3.length : Int) 1 4) = false then 1
  else if l0_3.any (fun p => (p.length : Int) != wrap64 (a0_0 * a0_1)) = true then 4
  else if okPlanes a0_2 l0_3 = true then 0 else 1)
theorem okPlanes_step (bits : Int) (l : List (List Int)) (i : Nat) (p : List Int) (h : l[i]? = some p) : okPlanes bits (l.drop i) = ((!p.any fun v => !(btw v 0 (2 ^ bits.toNat - 1))) && okPlanes bits (l.drop (i + 1))) := by
 obtain ⟨hl, he⟩ := List.getElem?_eq_some_iff.1 h
 rw [List.drop_eq_getElem_cons hl, he]
 simp [okPlanes]
theorem makeFunc_run : ∀ (fn : Fn) (first cap : Array Value) (w : World), (Instr.makeFunc fn first cap).run Tryz.prog w = .ok (.func fn first cap) w := fun _ _ _ _ => rfl
set_option maxHeartbeats 8000000 in
set_option maxRecDepth 100000 in
theorem picture_Check.calls (a0_0 : Int) (a0_1 : Int) (a0_2 : Int) (A0_3 : Option Addr) (c0_3 : Nat) (l0_3 : List (List Int)) (r : Int) (w : World) (hr0_3 : Kd.C (Kd.slice 3 (Kd.int .i64)) w A0_3 l0_3.length l0_3) (hc0_3 : l0_3.length ≤ c0_3) (h : picture_Check.f a0_0 a0_1 a0_2 l0_3 = some r) :
  Calls Tryz.prog 47 #[.agg #[.int .i64 a0_0, .int .i64 a0_1, .int .i64 a0_2, .slice A0_3 l0_3.length c0_3]] w fun e w' => e = .returned (.int .i64 r) ∧ Below w.heap.size w w' := by
 have hu24 := Tryz.underlying24
 have HR := As0.mk hr0_3
 clear hr0_3 hc0_3
 have HB := As0.mk (Below.refl w.heap.size w)
 injection h with h
 cases b1 : btw a0_0 1 64 with
 | false =>
  have HC1 := As0.mk (within_is _ _ _ _ b1)
  simp only [b1, Bool.false_and, Bool.and_false, Bool.true_and, Bool.and_true, if_true] at h
  clear b1
  subst h
  go_enter Tryz.func47, Tryz.ntmps47
  go_wp2_with (first | ((with_reducible refine gdt (N := 1) rfl ?_); refine bxe ?hg (N := 1) ?hd (cs := #[.int .i64 a0_0, .int .i64 a0_1, .int .i64 a0_2, .slice A0_3 l0_3.length c0_3]) (t := 24) ?hr ?_; (case hd => rfl); (case hg => rfl); (case hr => first | (go_simp; done) | (go_simp; rfl)); intro gb hg w2 hbox hb; have HB2 := As0.mk hb; have hgle : As0 (w.heap.size ≤ gb) := ⟨by omega⟩; have k0 := (bkc hbox 0).trans rfl; have k1 := (bkc hbox 1).trans rfl; have k2 := (bkc hbox 2).trans rfl; have k3 := (bkc hbox 3).trans rfl; have BK := As0.mk hbox; clear hb hbox hg) | (go_at_call 103; (with_reducible refine (HC1.out _).mono ?_); rintro e w' ⟨rfl, hd⟩; obtain ⟨n1, rfl⟩ := hd.out; clear hd))
  go_ret
  exact ⟨rfl, by repeat (first | exact HB2.out | apply pwN)⟩
 | true =>
  cases b2 : btw a0_1 1 64 with
  | false =>
   have HC1 := As0.mk (within_is _ _ _ _ b1)
   have HC2 := As0.mk (within_is _ _ _ _ b2)
   simp only [b1, b2, Bool.false_and, Bool.and_false, Bool.true_and, Bool.and_true, if_true] at h
   clear b1 b2
   subst h
   go_enter Tryz.func47, Tryz.ntmps47
   go_wp2_with (first | ((with_reducible refine gdt (N := 1) rfl ?_); refine bxe ?hg (N := 1) ?hd (cs := #[.int .i64 a0_0, .int .i64 a0_1, .int .i64 a0_2, .slice A0_3 l0_3.length c0_3]) (t := 24) ?hr ?_; (case hd => rfl); (case hg => rfl); (case hr => first | (go_simp; done) | (go_simp; rfl)); intro gb hg w2 hbox hb; have HB2 := As0.mk hb; have hgle : As0 (w.heap.size ≤ gb) := ⟨by omega⟩; have k0 := (bkc hbox 0).trans rfl; have k1 := (bkc hbox 1).trans rfl; have k2 := (bkc hbox 2).trans rfl; have k3 := (bkc hbox 3).trans rfl; have BK := As0.mk hbox; clear hb hbox hg) | (go_at_call 103; (with_reducible refine (HC1.out _).mono ?_); rintro e w' ⟨rfl, hd⟩; obtain ⟨n1, rfl⟩ := hd.out; clear hd) | (go_at_call 103; (with_reducible refine (HC2.out _).mono ?_); rintro e w' ⟨rfl, hd⟩; obtain ⟨n2, rfl⟩ := hd.out; clear hd))
   go_ret
   exact ⟨rfl, by repeat (first | exact HB2.out | apply pwN)⟩
  | true =>
   cases b3 : btw a0_2 1 12 with
   | false =>
    have HC1 := As0.mk (within_is _ _ _ _ b1)
    have HC2 := As0.mk (within_is _ _ _ _ b2)
    have HC3 := As0.mk (within_is _ _ _ _ b3)
    simp only [b1, b2, b3, Bool.false_and, Bool.and_false, Bool.true_and, Bool.and_true, if_true] at h
    clear b1 b2 b3
    subst h
    go_enter Tryz.func47, Tryz.ntmps47
    go_wp2_with (first | ((with_reducible refine gdt (N := 1) rfl ?_); refine bxe ?hg (N := 1) ?hd (cs := #[.int .i64 a0_0, .int .i64 a0_1, .int .i64 a0_2, .slice A0_3 l0_3.length c0_3]) (t := 24) ?hr ?_; (case hd => rfl); (case hg => rfl); (case hr => first | (go_simp; done) | (go_simp; rfl)); intro gb hg w2 hbox hb; have HB2 := As0.mk hb; have hgle : As0 (w.heap.size ≤ gb) := ⟨by omega⟩; have k0 := (bkc hbox 0).trans rfl; have k1 := (bkc hbox 1).trans rfl; have k2 := (bkc hbox 2).trans rfl; have k3 := (bkc hbox 3).trans rfl; have BK := As0.mk hbox; clear hb hbox hg) | (go_at_call 103; (with_reducible refine (HC1.out _).mono ?_); rintro e w' ⟨rfl, hd⟩; obtain ⟨n1, rfl⟩ := hd.out; clear hd) | (go_at_call 103; (with_reducible refine (HC2.out _).mono ?_); rintro e w' ⟨rfl, hd⟩; obtain ⟨n2, rfl⟩ := hd.out; clear hd) | (go_at_call 103; (with_reducible refine (HC3.out _).mono ?_); rintro e w' ⟨rfl, hd⟩; obtain ⟨n3, rfl⟩ := hd.out; clear hd))
    go_ret
    exact ⟨rfl, by repeat (first | exact HB2.out | apply pwN)⟩
   | true =>
    cases b4 : btw (l0_3.length : Int) 1 4 with
    | false =>
     have HC1 := As0.mk (within_is _ _ _ _ b1)
     have HC2 := As0.mk (within_is _ _ _ _ b2)
     have HC3 := As0.mk (within_is _ _ _ _ b3)
     have HC4 := As0.mk (within_is _ _ _ _ b4)
     simp only [b1, b2, b3, b4, Bool.false_and, Bool.and_false, Bool.true_and, Bool.and_true, if_true] at h
     clear b1 b2 b3 b4
     subst h
     go_enter Tryz.func47, Tryz.ntmps47
     go_wp2_with (first | ((with_reducible refine gdt (N := 1) rfl ?_); refine bxe ?hg (N := 1) ?hd (cs := #[.int .i64 a0_0, .int .i64 a0_1, .int .i64 a0_2, .slice A0_3 l0_3.length c0_3]) (t := 24) ?hr ?_; (case hd => rfl); (case hg => rfl); (case hr => first | (go_simp; done) | (go_simp; rfl)); intro gb hg w2 hbox hb; have HB2 := As0.mk hb; have hgle : As0 (w.heap.size ≤ gb) := ⟨by omega⟩; have k0 := (bkc hbox 0).trans rfl; have k1 := (bkc hbox 1).trans rfl; have k2 := (bkc hbox 2).trans rfl; have k3 := (bkc hbox 3).trans rfl; have BK := As0.mk hbox; clear hb hbox hg) | (go_at_call 103; (with_reducible refine (HC1.out _).mono ?_); rintro e w' ⟨rfl, hd⟩; obtain ⟨n1, rfl⟩ := hd.out; clear hd) | (go_at_call 103; (with_reducible refine (HC2.out _).mono ?_); rintro e w' ⟨rfl, hd⟩; obtain ⟨n2, rfl⟩ := hd.out; clear hd) | (go_at_call 103; (with_reducible refine (HC3.out _).mono ?_); rintro e w' ⟨rfl, hd⟩; obtain ⟨n3, rfl⟩ := hd.out; clear hd) | (go_at_call 103; (with_reducible refine (HC4.out _).mono ?_); rintro e w' ⟨rfl, hd⟩; obtain ⟨n4, rfl⟩ := hd.out; clear hd))
     go_ret
     exact ⟨rfl, by repeat (first | exact HB2.out | apply pwN)⟩
    | true =>
     have HC1 := As0.mk (within_is _ _ _ _ b1)
     have HC2 := As0.mk (within_is _ _ _ _ b2)
     have HC3 := As0.mk (within_is _ _ _ _ b3)
     have HC4 := As0.mk (within_is _ _ _ _ b4)
     have HB3 := As0.mk b3
     simp only [b1, b2, b3, b4, Bool.and_true, Bool.true_eq_false, if_false] at h
     clear b1 b2 b3 b4
     have hmf := makeFunc_run
     cases b5 : l0_3.any (fun p => (p.length : Int) != wrap64 (a0_0 * a0_1)) with
     | true =>
      simp only [b5, if_true] at h
      subst h
      have B5 := As0.mk b5
      clear b5
      go_enter Tryz.func47, Tryz.ntmps47
      go_wp2_with (first | ((with_reducible refine gdt (N := 1) rfl ?_); refine bxe ?hg (N := 1) ?hd (cs := #[.int .i64 a0_0, .int .i64 a0_1, .int .i64 a0_2, .slice A0_3 l0_3.length c0_3]) (t := 24) ?hr ?_; (case hd => rfl); (case hg => rfl); (case hr => first | (go_simp; done) | (go_simp; rfl)); intro gb hg w2 hbox hb; have HB2 := As0.mk hb; have hgle : As0 (w.heap.size ≤ gb) := ⟨by omega⟩; have k0 := (bkc hbox 0).trans rfl; have k1 := (bkc hbox 1).trans rfl; have k2 := (bkc hbox 2).trans rfl; have k3 := (bkc hbox 3).trans rfl; have BK := As0.mk hbox; clear hb hbox hg) | (go_at_call 103; (with_reducible refine (HC1.out _).mono ?_); rintro e w' ⟨rfl, hd⟩; obtain ⟨n1, rfl⟩ := hd.out; clear hd) | (go_at_call 103; (with_reducible refine (HC2.out _).mono ?_); rintro e w' ⟨rfl, hd⟩; obtain ⟨n2, rfl⟩ := hd.out; clear hd) | (go_at_call 103; (with_reducible refine (HC3.out _).mono ?_); rintro e w' ⟨rfl, hd⟩; obtain ⟨n3, rfl⟩ := hd.out; clear hd) | (go_at_call 103; (with_reducible refine (HC4.out _).mono ?_); rintro e w' ⟨rfl, hd⟩; obtain ⟨n4, rfl⟩ := hd.out; clear hd) | (go_at_call 104; (with_reducible refine (ContainsFunc_rows.calls 105 #[.pointer (some ⟨gb, 0, none⟩)] (fun p => (p.length : Int) != wrap64 (a0_0 * a0_1)) A0_3 c0_3 l0_3 _ ?hC ?hP).mono ?_); (case hC => exact Kd.C_below HR.out (by repeat (first | exact HB2.out | apply pwN))); (case hP => refine ⟨enters_105, fun W x v hb he => ?_⟩; obtain ⟨A, c, rfl, _, _⟩ := he; exact (check1_any A x.length c gb a0_0 a0_1 a0_2 _ W ((hb.block gb (blk_lt BK.out)).trans BK.out)).mono (fun _ _ ⟨h1, h2⟩ => ⟨h1, h2.below⟩)); rintro e w' ⟨rfl, hb⟩; have BK2 := As0.mk ((hb.block gb (blk_lt BK.out)).trans BK.out); have HB4 := As0.mk (below_then (by repeat (first | exact HB2.out | apply pwN) : Below w.heap.size w _) (by repeat (first | exact HB2.out.size | apply pwN)) hb); clear hb; rw [B5.out]))
      go_ret
      exact ⟨rfl, HB4.out⟩
     | false =>
      simp only [b5, Bool.false_eq_true, if_false] at h
      have B5 := As0.mk b5
      have H := As0.mk h
      clear b5 h
      go_enter Tryz.func47, Tryz.ntmps47
      go_wp2_with (first | ((with_reducible refine gdt (N := 1) rfl ?_); refine bxe ?hg (N := 1) ?hd (cs := #[.int .i64 a0_0, .int .i64 a0_1, .int .i64 a0_2, .slice A0_3 l0_3.length c0_3]) (t := 24) ?hr ?_; (case hd => rfl); (case hg => rfl); (case hr => first | (go_simp; done) | (go_simp; rfl)); intro gb hg w2 hbox hb; have HB2 := As0.mk hb; have hgle : As0 (w.heap.size ≤ gb) := ⟨by omega⟩; have k0 := (bkc hbox 0).trans rfl; have k1 := (bkc hbox 1).trans rfl; have k2 := (bkc hbox 2).trans rfl; have k3 := (bkc hbox 3).trans rfl; have BK := As0.mk hbox; clear hb hbox hg) | (go_at_call 103; (with_reducible refine (HC1.out _).mono ?_); rintro e w' ⟨rfl, hd⟩; obtain ⟨n1, rfl⟩ := hd.out; clear hd) | (go_at_call 103; (with_reducible refine (HC2.out _).mono ?_); rintro e w' ⟨rfl, hd⟩; obtain ⟨n2, rfl⟩ := hd.out; clear hd) | (go_at_call 103; (with_reducible refine (HC3.out _).mono ?_); rintro e w' ⟨rfl, hd⟩; obtain ⟨n3, rfl⟩ := hd.out; clear hd) | (go_at_call 103; (with_reducible refine (HC4.out _).mono ?_); rintro e w' ⟨rfl, hd⟩; obtain ⟨n4, rfl⟩ := hd.out; clear hd) | (go_at_call 104; (with_reducible refine (ContainsFunc_rows.calls 105 #[.pointer (some ⟨gb, 0, none⟩)] (fun p => (p.length : Int) != wrap64 (a0_0 * a0_1)) A0_3 c0_3 l0_3 _ ?hC ?hP).mono ?_); (case hC => exact Kd.C_below HR.out (by repeat (first | exact HB2.out | apply pwN))); (case hP => refine ⟨enters_105, fun W x v hb he => ?_⟩; obtain ⟨A, c, rfl, _, _⟩ := he; exact (check1_any A x.length c gb a0_0 a0_1 a0_2 _ W ((hb.block gb (blk_lt BK.out)).trans BK.out)).mono (fun _ _ ⟨h1, h2⟩ => ⟨h1, h2.below⟩)); rintro e w' ⟨rfl, hb⟩; have BK2 := As0.mk ((hb.block gb (blk_lt BK.out)).trans BK.out); have HB4 := As0.mk (below_then (by repeat (first | exact HB2.out | apply pwN) : Below w.heap.size w _) (by repeat (first | exact HB2.out.size | apply pwN)) hb); clear hb; rw [B5.out]; have k0 := (bkc BK2.out 0).trans rfl; have k1 := (bkc BK2.out 1).trans rfl; have k2 := (bkc BK2.out 2).trans rfl; have k3 := (bkc BK2.out 3).trans rfl))
      clear k0 k1 k2 k3 BK HB2 HC1 HC2 HC3 HC4 B5
      have HI : As0 (0 ≤ (0 : Int) ∧ (0 : Int) + (l0_3.length : Nat) = l0_3.length ∧ okPlanes a0_2 (l0_3.drop (0 : Int).toNat) = okPlanes a0_2 l0_3) := ⟨by omega, by omega, rfl⟩
      have hlen := As0.mk HR.out.2.1
      go_loopg [35] l0_3.length (fun kq v35 w' => ∃ i : Int, v35 = .int .i64 i ∧ As0 (0 ≤ i ∧ i + kq = l0_3.length ∧ okPlanes a0_2 (l0_3.drop i.toNat) = okPlanes a0_2 l0_3) ∧ As0 (Below w.heap.size w w') ∧ As0 (w'.heap[gb]? = some (.cells #[.int .i64 a0_0, .int .i64 a0_1, .int .i64 a0_2, .slice A0_3 l0_3.length c0_3] 24 (0, 0))))
      case atStart => exact ⟨0, rfl, HI, HB4, BK2⟩
      case round =>
       clear HI HB4 BK2
       obtain ⟨i, rfl, HI, HB4, BK2⟩ := hrel
       cases gk with
       | zero =>
        have hge : decide (i < (l0_3.length : Int)) = false := by have := HI.out; simp; omega
        go_wp2
        go_ret
        refine ⟨?_, HB4.out⟩
        have h2 := HI.out.2.2
        rw [List.drop_eq_nil_of_le (by have := HI.out; omega)] at h2
        rw [← H.out, ← h2]
        rfl
       | succ kq1 =>
        have h0 : 0 ≤ i := by have := HI.out; omega
        have h1 : i < (l0_3.length : Int) := by have := HI.out; omega
        have hge : decide (i < (l0_3.length : Int)) = true := decide_eq_true h1
        have hg0 : decide (0 ≤ i) = true := decide_eq_true h0
        obtain ⟨ad, A1, c1, e0, hc, hl1, hi1⟩ := at_L1 HR.out i h0 h1
        cases e0
        replace hc := (HB4.out.cell (World.block_lt_of_cell? w _ hc)).trans hc
        have hx : As0 (l0_3[i.toNat]? = some (rd_L1 l0_3 i)) := ⟨by
         have hl : i.toNat < l0_3.length := by omega
         simp [rd_L1, List.getElem?_eq_getElem hl, List.getD_eq_getElem?_getD]⟩
        have HX := As0.mk hi1
        clear hl1 hi1
        generalize rd_L1 l0_3 i = x at *
        replace h0 := eq_true h0
        replace h1 := eq_true h1
        cases b6 : x.any (fun v => !(btw v 0 (2 ^ a0_2.toNat - 1))) with
        | true =>
         have B6 := As0.mk b6
         clear b6
         go_wp2_with (go_at_call 56; (with_reducible refine (ContainsFunc_int.calls 106 #[.pointer (some ⟨gb, 0, none⟩)] (fun v => !(btw v 0 (2 ^ a0_2.toNat - 1))) A1 c1 x _ ?hC ?hP).mono ?_); (case hC => exact Kd.C_below HX.out HB4.out); (case hP => refine ⟨enters_106, fun W y v hb he => ?_⟩; subst he; exact (check2_any y gb a0_0 a0_1 a0_2 _ W ((hb.block gb (blk_lt BK2.out)).trans BK2.out) HB3.out)); rintro e w' ⟨rfl, hb⟩; have BK3 := As0.mk ((hb.block gb (blk_lt BK2.out)).trans BK2.out); have HB5 := As0.mk (pwt HB4.out hb); clear hb; rw [B6.out])
         go_ret
         refine ⟨?_, HB5.out⟩
         have h2 := HI.out.2.2
         rw [okPlanes_step a0_2 l0_3 i.toNat x hx.out, B6.out] at h2
         rw [← H.out, ← h2]
         rfl
        | false =>
         have B6 := As0.mk b6
         clear b6
         go_wp2_with (go_at_call 56; (with_reducible refine (ContainsFunc_int.calls 106 #[.pointer (some ⟨gb, 0, none⟩)] (fun v => !(btw v 0 (2 ^ a0_2.toNat - 1))) A1 c1 x _ ?hC ?hP).mono ?_); (case hC => exact Kd.C_below HX.out HB4.out); (case hP => refine ⟨enters_106, fun W y v hb he => ?_⟩; subst he; exact (check2_any y gb a0_0 a0_1 a0_2 _ W ((hb.block gb (blk_lt BK2.out)).trans BK2.out) HB3.out)); rintro e w' ⟨rfl, hb⟩; have BK3 := As0.mk ((hb.block gb (blk_lt BK2.out)).trans BK2.out); have HB5 := As0.mk (pwt HB4.out hb); clear hb; rw [B6.out])
         go_roundg kq1
         case measure => omega
         case rel =>
          have hw : wrap64 (i + 1) = i + 1 := by have := HI.out; have := hlen.out; unfold wrap64; omega
          have h2 := HI.out.2.2
          refine ⟨i + 1, congrArg _ hw, ⟨by have := HI.out; omega, by have := HI.out; omega, ?_⟩, HB5, BK3⟩
          rw [← h2, okPlanes_step a0_2 l0_3 i.toNat x hx.out, B6.out, show (i + 1).toNat = i.toNat + 1 from by have := HI.out; omega]
          rfl
def r15_in.f (a0 : Int) (a1 : Int) (a2 : Int) : Option (Bool) := if a0 ≥ a1 then (some (decide (a0 ≤ a2))) else (some false)
theorem in14_is (a b c : Int) : r14_in.f a b c = some (btw a b c) := by
 unfold r14_in.f btw
 by_cases h : a ≥ b <;> simp [h]
theorem in15_is (a b c : Int) : r15_in.f a b c = some (btw a b c) := by
 unfold r15_in.f btw
 by_cases h : a ≥ b <;> simp [h]
theorem within48_is (a b c : Int) : item_within.f a b c = some (btw a b c) := by
 unfold item_within.f btw
 by_cases h : a ≥ b <;> simp [h]
theorem most_is (a : Int) (h : 1 ≤ a ∧ a ≤ 12) : r14_most.f a = some (2 ^ a.toNat - 1) := by
 have : a = 1 ∨ a = 2 ∨ a = 3 ∨ a = 4 ∨ a = 5 ∨ a = 6 ∨ a = 7 ∨ a = 8 ∨ a = 9 ∨ a = 10 ∨ a = 11 ∨ a = 12 := by omega
 rcases this with rfl | rfl | rfl | rfl | rfl | rfl | rfl | rfl | rfl | rfl | rfl | rfl <;> decide +kernel
theorem rdL1_at (l : List (List Int)) (p : Nat) (row : List Int) (h : l[p]? = some row) : rd_L1 l (p : Int) = row := by
 simp [rd_L1, List.getD_eq_getElem?_getD, h]
theorem rd_at (l : List Int) (j : Nat) (x : Int) (h : l[j]? = some x) : rd l (j : Int) = x := by
 simp [rd, List.getD_eq_getElem?_getD, h]
theorem w64_succ (p : Nat) (h : p < 1000000000) : wrap64 ((p : Int) + 1) = ((p + 1 : Nat) : Int) := by unfold wrap64; omega
theorem drop_at {α : Type} (l : List α) (p : Nat) (x : α) (h : l[p]? = some x) : l.drop p = x :: l.drop (p + 1) := by
 obtain ⟨hl, he⟩ := List.getElem?_eq_some_iff.1 h
 rw [List.drop_eq_getElem_cons hl, he]
section
variable (a b c : Int) (l : List (List Int)) (hc : 1 ≤ c ∧ c ≤ 12) (hl : l.length ≤ 8) (hr : ∀ r ∈ l, r.length ≤ 5000)
include hc hr in
theorem chk_l2 (p : Nat) (row : List Int) (hrow : l[p]? = some row) (R : Option Int) (K : Nat) (hp : p < 1000) (hR : ∀ k ≥ K, r14_Check.l1 k ((p + 1 : Nat) : Int) a b c l = R) :
  ∀ (n j : Nat), j + n = row.length → ∀ k ≥ K + n + 1, r14_Check.l2 k (p : Int) (j : Int) a b c l = if ((row.drop j).all fun v => btw v 0 (2 ^ c.toNat - 1)) = true then R else some 1 := by
 have hpl := (List.getElem?_eq_some_iff.1 hrow).1
 have h5 := hr row (List.mem_of_getElem? hrow)
 intro n
 induction n with
 | zero =>
  intro j hj k hk
  obtain ⟨k, rfl⟩ : ∃ m, k = m + 1 := ⟨k - 1, by omega⟩
  rw [r14_Check.l2, if_pos (by omega), if_pos (by omega), rdL1_at l p row hrow, if_neg (by omega), List.drop_eq_nil_of_le (by omega), w64_succ p (by omega), hR k (by omega)]
  rfl
 | succ n ih =>
  intro j hj k hk
  obtain ⟨k, rfl⟩ : ∃ m, k = m + 1 := ⟨k - 1, by omega⟩
  have hjl : j < row.length := by omega
  have hx : row[j]? = some row[j] := List.getElem?_eq_getElem hjl
  rw [r14_Check.l2, if_pos (by omega), if_pos (by omega), rdL1_at l p row hrow, if_pos (by omega), if_pos (by omega), most_is c hc, Option.bind_some, rd_at row j _ hx, in14_is, Option.bind_some, drop_at row j _ hx, List.all_cons, w64_succ j (by omega)]
  cases hb : btw row[j] 0 (2 ^ c.toNat - 1) with
  | true => rw [if_pos rfl, Bool.true_and]; exact ih (j + 1) (by omega) k (by omega)
  | false => rw [if_neg (by decide), Bool.false_and, if_neg (by decide)]
include hc hr in
theorem chk_l1 : ∀ (n p : Nat), p + n = l.length → p + n < 1000 → ∀ k ≥ 6000 * n + 1, r14_Check.l1 k (p : Int) a b c l = if okPlanes c (l.drop p) = true then some 0 else some 1 := by
 intro n
 induction n with
 | zero =>
  intro p hp _ k hk
  obtain ⟨k, rfl⟩ : ∃ m, k = m + 1 := ⟨k - 1, by omega⟩
  rw [r14_Check.l1, if_neg (by omega), List.drop_eq_nil_of_le (by omega)]
  rfl
 | succ n ih =>
  intro p hp hq k hk
  obtain ⟨k, rfl⟩ : ∃ m, k = m + 1 := ⟨k - 1, by omega⟩
  have hpl : p < l.length := by omega
  have hx : l[p]? = some l[p] := List.getElem?_eq_getElem hpl
  have h5 := hr _ (List.getElem_mem hpl)
  rw [r14_Check.l1, if_pos (by omega), show (0 : Int) = ((0 : Nat) : Int) from rfl, chk_l2 a b c l hc hr p _ hx _ (6000 * n + 1) (by omega) (ih (p + 1) (by omega) (by omega)) l[p].length 0 (by omega) k (by omega), List.drop_zero, okPlanes_step c l p _ hx]
  have e : (l[p].all fun v => btw v 0 (2 ^ c.toNat - 1)) = !(l[p].any fun v => !(btw v 0 (2 ^ c.toNat - 1))) := by
   rw [List.not_any_eq_all_not]
   simp
  rw [e]
  cases (l[p].any fun v => !(btw v 0 (2 ^ c.toNat - 1))) <;> simp
include hc hr in
theorem chk_l0 : ∀ (n p : Nat), p + n = l.length → p + n < 1000 → ∀ k ≥ 6000 * l.length + n + 2, r14_Check.l0 k (p : Int) a b c l = if (l.drop p).any (fun r => (r.length : Int) != wrap64 (a * b)) = true then some 4 else if okPlanes c l = true then some 0 else some 1 := by
 intro n
 induction n with
 | zero =>
  intro p hp hq k hk
  obtain ⟨k, rfl⟩ : ∃ m, k = m + 1 := ⟨k - 1, by omega⟩
  rw [r14_Check.l0, if_neg (by omega), List.drop_eq_nil_of_le (by omega), show (0 : Int) = ((0 : Nat) : Int) from rfl, chk_l1 a b c l hc hr l.length 0 (by omega) (by omega) k (by omega)]
  rfl
 | succ n ih =>
  intro p hp hq k hk
  obtain ⟨k, rfl⟩ : ∃ m, k = m + 1 := ⟨k - 1, by omega⟩
  have hpl : p < l.length := by omega
  have hx : l[p]? = some l[p] := List.getElem?_eq_getElem hpl
  rw [r14_Check.l0, if_pos (by omega), if_pos (by omega), rdL1_at l p _ hx, w64_succ p (by omega), drop_at l p _ hx, List.any_cons]
  by_cases he : (l[p].length : Int) = wrap64 (a * b)
  ·rw [if_pos he, ih (p + 1) (by omega) (by omega) k (by omega)]
   simp [he]
  ·rw [if_neg he]
   simp [he]
end
theorem check_is (a b c : Int) (l : List (List Int)) (hl : l.length ≤ 8) (hr : ∀ r ∈ l, r.length ≤ 5000) (k : Nat) (hk : 60000 ≤ k) : r14_Check.f k a b c l = picture_Check.f a b c l := by
 obtain ⟨k, rfl⟩ : ∃ m, k = m + 1 := ⟨k - 1, by omega⟩
 unfold r14_Check.f picture_Check.f
 simp only [in14_is, Option.bind_some]
 have jt : r14_Check.j0 (k + 1) true a b c l = some 1 := by rw [r14_Check.j0, if_pos rfl]
 cases h1 : btw a 1 64 with
 | false => simp [jt]
 | true =>
 cases h2 : btw b 1 64 with
 | false => simp [jt]
 | true =>
 cases h3 : btw c 1 12 with
 | false => simp [jt]
 | true =>
 cases h4 : btw (l.length : Int) 1 4 with
 | false => simp [jt]
 | true =>
 have hc : 1 ≤ c ∧ c ≤ 12 := by simpa [btw] using h3
 have h0 := chk_l0 a b c l hc hr l.length 0 (by omega) (by omega) k (by omega)
 simp only [if_true, Bool.not_true, Bool.and_self, Bool.true_eq_false, if_false]
 rw [r14_Check.j0, if_neg (by decide), show (0 : Int) = ((0 : Nat) : Int) from rfl, h0, List.drop_zero]
 by_cases hm : (l.any fun r => (r.length : Int) != wrap64 (a * b)) = true
 ·rw [if_pos hm, if_pos hm]
 ·rw [if_neg hm, if_neg hm]
  cases okPlanes c l <;> rfl
def slices_Clone_int_int_120.f (l0 : List Int) : Option (List Int) := if l0.length < 17592186044416 then some l0 else none
set_option maxHeartbeats 8000000 in
set_option maxRecDepth 100000 in
theorem slices_Clone_int_int_120.calls (A0 : Option Addr) (c0 : Nat) (l0 : List Int) (r : List Int) (w : World) (hr0 : Kd.C (Kd.int .i64) w A0 l0.length l0) (hc0 : l0.length ≤ c0) (h : slices_Clone_int_int_120.f l0 = some r) :
  Calls Tryz.prog 120 #[.slice A0 l0.length c0] w fun e w' => ∃ v0_ : Value, e = .returned (v0_) ∧ Kd.R (Kd.int .i64) 3 w' w.heap.size (fun _ => True) v0_ r ∧ Below w.heap.size w w' := by
 unfold slices_Clone_int_int_120.f at h
 split at h
 case isFalse => cases h
 case isTrue hlim =>
 injection h with h
 subst h
 have HLIM := As0.mk hlim
 clear hlim
 have HR0 := As0.mk hr0
 clear hr0 hc0
 have HB := As0.mk (Below.refl w.heap.size w)
 rcases A0 with _ | ad
 ·have hl : l0 = [] := by
   have := HR0.out.2.2
   cases l0 with
   | nil => rfl
   | cons a t => obtain ⟨ad, h, _⟩ := this (by simp); cases h
  subst hl
  have heq : ∀ W : World, (binOp .eql 39 (.slice none 0 c0) (.slice none 0 0)).run Tryz.prog W = .ok (.bool true) W := fun W => by simpa using Lib.run_eql_slice_nil W 39 3 none 0 c0 0 0 Tryz.underlying39
  go_enter Tryz.func120, Tryz.ntmps120
  go_wp2
  go_ret
  exact ⟨_, rfl, Kd.R_nil _ _ _ _ _, Below.refl _ _⟩
 ·have heq : ∀ W : World, (binOp .eql 39 (.slice (some ad) l0.length c0) (.slice none 0 0)).run Tryz.prog W = .ok (.bool false) W := fun W => by simpa using Lib.run_eql_slice_nil W 39 3 (some ad) l0.length c0 0 0 Tryz.underlying39
  go_enter Tryz.func120, Tryz.ntmps120
  have HO : (Kd.int .i64).R 3 (w.alloc (.cells #[] 3)) w.heap.size (fun _ => True) (.slice (some ⟨w.heap.size, 0, none⟩) 0 0) ([] : List Int) :=
   ⟨fun _ _ => trivial, OwnRow.lit w w.heap.size (inner := []) (Reps.none _ _) (Nat.le_refl _) (by simp)⟩
  have HO' := As0.mk HO
  clear HO
  go_wp2_with (at_builtin; refine Kd.R_append_row (Value.int .i64) 0 (w0 := w) w.heap.size rfl (.tmp 5) (.tmp 6) 39 3 (.int .i64 0) 8 rfl Tryz.underlying39 info3 rfl (by decide) _ [] l0 (some ad) l0.length c0 (fun _ => True) rfl rfl (fun _ _ => trivial) HO'.out (Kd.C_alloc HR0.out _) (bwa HB.out _) (by simp) (by have := HLIM.out; simp; omega) ?_; intro v1 w1 hv1 hb1 _ _; have HV := As0.mk hv1; have HB1 := As0.mk hb1; clear hv1 hb1 HO')
  go_ret
  exact ⟨_, rfl, HV.out, HB1.out⟩
def shr (w0 : World) : Kd (List Int) where
 sz := 1
 E := []
 K := fun _ x cs => (Kd.slice 3 (Kd.int .i64)).K w0 x cs
 M := fun _ _ _ x cs => (Kd.slice 3 (Kd.int .i64)).K w0 x cs
 K_len := fun h => (Kd.slice 3 (Kd.int .i64)).K_len h
 K_one := fun h => (Kd.slice 3 (Kd.int .i64)).K_one h
 K_below := fun _ h => h
 K_of_M := fun h => h
 M_mono := fun _ h => h
 M_bound := fun h => h
 M_move := fun _ h => h
 M_lower := fun _ h => h
theorem shr_C {w : World} {A : Option Addr} {n : Nat} {l : List (List Int)} (h : Kd.C (Kd.slice 3 (Kd.int .i64)) w A n l) : Kd.C (shr w) w A n l := h
set_option maxHeartbeats 8000000 in
set_option maxRecDepth 100000 in
theorem Clone_rows (A0 : Option Addr) (c0 : Nat) (l0 : List (List Int)) (w0 w : World) (hr0 : Kd.C (Kd.slice 3 (Kd.int .i64)) w0 A0 l0.length l0) (hb0 : Below w0.heap.size w0 w) (hlim : l0.length < 5864062014805) :
  Calls Tryz.prog 119 #[.slice A0 l0.length c0] w fun e w' => ∃ v0_ : Value, e = .returned (v0_) ∧ (shr w0).R 39 w' w.heap.size (fun _ => True) v0_ l0 ∧ Below w.heap.size w w' := by
 have HLIM := As0.mk hlim
 clear hlim
 have HR0 := As0.mk (Kd.C_below (shr_C hr0) hb0)
 clear hr0 hb0
 have HB := As0.mk (Below.refl w.heap.size w)
 rcases A0 with _ | ad
 ·have hl : l0 = [] := by
   have := HR0.out.2.2
   cases l0 with
   | nil => rfl
   | cons a t => obtain ⟨ad, h, _⟩ := this (by simp); cases h
  subst hl
  have heq : ∀ W : World, (binOp .eql 22 (.slice none 0 c0) (.slice none 0 0)).run Tryz.prog W = .ok (.bool true) W := fun W => by simpa using Lib.run_eql_slice_nil W 22 39 none 0 c0 0 0 Tryz.underlying22
  go_enter Tryz.func119, Tryz.ntmps119
  go_wp2
  go_ret
  exact ⟨_, rfl, Kd.R_nil _ _ _ _ _, Below.refl _ _⟩
 ·have heq : ∀ W : World, (binOp .eql 22 (.slice (some ad) l0.length c0) (.slice none 0 0)).run Tryz.prog W = .ok (.bool false) W := fun W => by simpa using Lib.run_eql_slice_nil W 22 39 (some ad) l0.length c0 0 0 Tryz.underlying22
  go_enter Tryz.func119, Tryz.ntmps119
  have HO : (shr w0).R 39 (w.alloc (.cells #[] 39)) w.heap.size (fun _ => True) (.slice (some ⟨w.heap.size, 0, none⟩) 0 0) ([] : List (List Int)) :=
   ⟨fun _ _ => trivial, OwnRow.lit w w.heap.size (inner := []) (Reps.none _ _) (Nat.le_refl _) (by simp)⟩
  have HO' := As0.mk HO
  clear HO
  go_wp2_with (at_builtin; go_loud (refine Kd.R_append_rows (shr w0) (w0 := w) w.heap.size rfl (.tmp 5) (.tmp 6) 22 39 (.slice none 0 0) 24 rfl Tryz.underlying22 info39 rfl Nat.one_pos (by decide) _ [] l0 (some ad) l0.length c0 (fun _ => True) (fun _ => False) rfl rfl HO'.out (Kd.C_alloc HR0.out _) (fun _ _ h => h) (fun _ h => h.elim) (fun _ _ => trivial) (bwa HB.out _) (by simp) (by have := HLIM.out; simp; omega) ?_; intro v1 w1 hv1 hb1 _ _; have HV := As0.mk hv1; have HB1 := As0.mk hb1; clear hv1 hb1 HO'))
  go_ret
  exact ⟨_, rfl, HV.out, HB1.out⟩
theorem own_put {w : World} {base n cap g e : Nat} {inner : List Value} (h : w.ownsRow base e 1 (.slice (some ⟨g, 0, none⟩) n cap) n inner) (i : Nat) (u : Value) :
  (w.setCell ⟨g, i, none⟩ u).ownsRow base e 1 (.slice (some ⟨g, 0, none⟩) n cap) n (inner.set i u) := by
 obtain ⟨hl, h⟩ := h
 refine ⟨by rw [List.length_set]; exact hl, ?_⟩
 rcases h with ⟨h, _⟩ | ⟨g', cap', cur, hv, hb, hh, hn, hm, hs, ht⟩
 ·cases h
 ·injection hv with ha _ hc
  injection ha with ha
  injection ha with hg
  subst hg; subst hc
  exact .inr ⟨g, cap, _, rfl, hb, blk_put hh i u rfl, hn, hm, by rw [Array.size_setIfInBounds]; exact hs, by rw [Array.toList_setIfInBounds, List.take_set, ht]⟩
def ClI (w0 w : World) (i : Nat) (v : Value) (xs : List (List Int)) : Prop :=
 ∃ (f : Nat → Nat) (inner : List Value), w.ownsRow w0.heap.size 39 1 v xs.length inner ∧ ∀ j x, xs[j]? = some x →
  (j < i → ∃ u, inner[j]? = some u ∧ (Kd.int .i64).R 3 w w0.heap.size (fun k => some k ≠ v.ownBlock ∧ f k = j) u x) ∧
  (i ≤ j → ∃ A c, inner[j]? = some (.slice A x.length c) ∧ x.length ≤ c ∧ Kd.C (Kd.int .i64) w0 A x.length x)
theorem chunk_one (inner : List Value) (j : Nat) (v : Value) : (inner.drop (j * 1)).take 1 = [v] ↔ inner[j]? = some v := by
 rw [Nat.mul_one]
 constructor
 ·intro h
  have := congrArg (·[0]?) h
  simpa using this
 ·intro h
  obtain ⟨hl, he⟩ := List.getElem?_eq_some_iff.1 h
  rw [List.drop_eq_getElem_cons hl, he]
  rfl
theorem ClI.start {w0 w : World} {v : Value} {xs : List (List Int)} (h : (shr w0).R 39 w w0.heap.size (fun _ => True) v xs) : ClI w0 w 0 v xs := by
 obtain ⟨_, inner, ho, hr⟩ := h
 refine ⟨fun _ => 0, inner, ho, fun j x hx => ⟨fun h => by omega, fun _ => ?_⟩⟩
 obtain ⟨A, c, he, hl, hc⟩ := hr.2 j x hx
 exact ⟨A, c, (chunk_one inner j _).1 he, hl, hc⟩
theorem ClI.done {w0 w : World} {v : Value} {xs : List (List Int)} (h : ClI w0 w xs.length v xs) : Kd.S (Kd.slice 3 (Kd.int .i64)) 39 w w0.heap.size (fun _ => True) v xs := by
 obtain ⟨f, inner, ho, hr⟩ := h
 refine ⟨f, fun _ _ => trivial, inner, by rw [List.length_zipIdx]; exact ho, by rw [List.length_zipIdx]; exact ho.1, fun j p hj => ?_⟩
 rw [List.getElem?_zipIdx, Nat.zero_add] at hj
 obtain ⟨x, hx, rfl⟩ := Option.map_eq_some_iff.1 hj
 obtain ⟨u, hu, hR⟩ := (hr j x hx).1 (List.getElem?_eq_some_iff.1 hx).1
 exact ⟨u, (chunk_one inner j u).2 hu, Kd.R_mono hR (fun k hk => ⟨⟨trivial, hk.1⟩, hk.2⟩)⟩
theorem ClI.size {w0 w : World} {i : Nat} {v : Value} {xs : List (List Int)} (h : ClI w0 w i v xs) : ∃ A c, v = .slice A xs.length c := by
 obtain ⟨f, inner, ho, _⟩ := h
 rcases ho.2 with ⟨h, h0⟩ | ⟨g, cap, _, h, _⟩
 ·exact ⟨none, 0, by rw [h, h0]⟩
 ·exact ⟨_, _, h⟩
theorem ClI.form {w0 w : World} {i : Nat} {v : Value} {xs : List (List Int)} (h : ClI w0 w i v xs) (hp : 0 < xs.length) : ∃ g cap cells, v = .slice (some ⟨g, 0, none⟩) xs.length cap ∧ w0.heap.size ≤ g ∧ w.heap[g]? = some (.cells cells 39 (0, 0)) := by
 obtain ⟨f, inner, ho, _⟩ := h
 rcases ho.2 with ⟨h, h0⟩ | ⟨g, cap, cur, h, hb, hh, _⟩
 ·omega
 ·exact ⟨g, cap, cur, h, hb, hh⟩
theorem ClI.move {w0 w w1 : World} {i : Nat} {v : Value} {xs : List (List Int)} (h : ClI w0 w i v xs) (hm : ∀ (k : Nat) (cells : Array Value) (t : Nat), w.heap[k]? = some (Obj.cells cells t (0, 0)) → t = 39 ∨ t = 3 → w1.heap[k]? = w.heap[k]?) : ClI w0 w1 i v xs := by
 obtain ⟨f, inner, ho, hr⟩ := h
 refine ⟨f, inner, ?_, fun j x hx => ⟨fun hj => ?_, (hr j x hx).2⟩⟩
 ·refine ⟨ho.1, ?_⟩
  rcases ho.2 with h | ⟨g, cap, cur, h1, h2, h3, h4⟩
  ·exact .inl h
  ·exact .inr ⟨g, cap, cur, h1, h2, (hm g _ _ h3 (.inl rfl)).trans h3, h4⟩
 ·obtain ⟨u, hu, hR⟩ := (hr j x hx).1 hj
  refine ⟨u, hu, Kd.R_mono (Kd.R_move (Kd.R_bound hR) (fun k hk => ?_)) (fun _ hk => hk.1)⟩
  obtain ⟨q, hq, cells, hc⟩ := hk.2.2.2
  simp [Kd.int, Kd.scalar] at hq
  exact hm k cells q hc (.inr hq)
theorem ClI.below {w0 w w1 : World} {i : Nat} {v : Value} {xs : List (List Int)} (h : ClI w0 w i v xs) (hb : Below w.heap.size w w1) : ClI w0 w1 i v xs :=
 h.move (fun k _ _ hk _ => hb.block k (blk_lt hk))
theorem ClI.set {w0 w : World} {i : Nat} {v : Value} {xs : List (List Int)} {g t : Nat} {cells : Array Value} (h : ClI w0 w i v xs) (hb : w.heap[g]? = some (.cells cells t (0, 0))) (ht : t ≠ 39 ∧ t ≠ 3) (j : Nat) (u : Value) : ClI w0 (w.setCell ⟨g, j, none⟩ u) i v xs :=
 h.move (fun k _ t' hk h2 => Below.heap_setCell w _ u k (fun he => by
  have he : k = g := he
  rw [he, hb] at hk; simp only [Option.some.injEq, Obj.cells.injEq] at hk; obtain ⟨_, h3, _⟩ := hk; rcases h2 with h2 | h2; exact ht.1 (h3.trans h2); exact ht.2 (h3.trans h2)))
theorem ClI.step {w0 w w1 : World} {i g cap : Nat} {xs : List (List Int)} {x : List Int} {u : Value} (h : ClI w0 w i (.slice (some ⟨g, 0, none⟩) xs.length cap) xs) (hx : xs[i]? = some x) (hb : Below w.heap.size w w1)
  (hu : (Kd.int .i64).R 3 w1 w.heap.size (fun _ => True) u x) (hg : g < w.heap.size) (h0 : w0.heap.size ≤ w.heap.size) : ClI w0 (w1.setCell ⟨g, i, none⟩ u) (i + 1) (.slice (some ⟨g, 0, none⟩) xs.length cap) xs := by
 have hil := (List.getElem?_eq_some_iff.1 hx).1
 obtain ⟨f, inner, ho, hr⟩ := h.below hb
 have hin : inner.length = xs.length := by have := ho.1; omega
 obtain ⟨f0, inner0, ho0, hr0⟩ := h
 have hii : inner0 = inner := by
  rcases ho.2 with ⟨h, _⟩ | ⟨g1, c1, cur, h1, h2, h3, h4, h5, h6, h7⟩
  ·cases h
  rcases ho0.2 with ⟨h, _⟩ | ⟨g1', c1', cur', h1', h2', h3', h4', h5', h6', h7'⟩
  ·cases h
  injection h1 with ha _ hc
  injection ha with ha
  injection ha with hg1
  injection h1' with ha _ hc
  injection ha with ha
  injection ha with hg1'
  subst hg1; subst hg1'
  rw [hb.block _ hg, h3'] at h3
  injection h3 with h3
  injection h3 with h3
  rw [← h7, ← h7', h3]
 subst hii
 refine ⟨fun k => if k < w.heap.size then f0 k else i, inner0.set i u, own_put ho i u, fun j y hy => ⟨fun hj => ?_, fun hj => ?_⟩⟩
 ·rcases Nat.lt_or_eq_of_le (Nat.le_of_lt_succ hj) with hlt | rfl
  ·obtain ⟨u1, hu1, hR⟩ := (hr0 j y hy).1 hlt
   refine ⟨u1, by rw [List.getElem?_set_ne (by omega)]; exact hu1, ?_⟩
   refine Kd.R_mono (Kd.R_move (Kd.R_bound hR) (fun k hk => ?_)) (fun k hk => ⟨hk.1.1, by show (if k < w.heap.size then f0 k else i) = j; rw [if_pos hk.2.2.1]; exact hk.1.2⟩)
   have hkg : k ≠ g := fun he => hk.1.1 (by rw [he]; simp [Value.ownBlock])
   exact (Below.heap_setCell w1 _ u k hkg).trans (hb.block k hk.2.2.1)
  ·obtain rfl : x = y := by rw [hx] at hy; exact Option.some.inj hy
   refine ⟨u, by rw [List.getElem?_set_self (by omega)], ?_⟩
   refine Kd.R_lower (base := w.heap.size) ?_ h0
   refine Kd.R_mono (Kd.R_move (Kd.R_bound hu) (fun k hk => ?_)) (fun k hk => ⟨by simp only [Value.ownBlock]; intro he; injection he with he; omega, by show (if k < w.heap.size then f0 k else j) = j; rw [if_neg (by omega)]⟩)
   exact Below.heap_setCell w1 _ u k (fun he => by have he : k = g := he; omega)
 ·obtain ⟨A, c, he, hl, hc⟩ := (hr0 j y hy).2 (by omega)
  exact ⟨A, c, by rw [List.getElem?_set_ne (by omega)]; exact he, hl, hc⟩
theorem ClI.read {w0 w : World} {i g cap : Nat} {xs : List (List Int)} {x : List Int} (h : ClI w0 w i (.slice (some ⟨g, 0, none⟩) xs.length cap) xs) (hx : xs[i]? = some x) :
  ∃ A c, w.cell? ⟨g, i, none⟩ = some (.slice A x.length c) ∧ w.frozen? ⟨g, i, none⟩ = false ∧ x.length ≤ c ∧ Kd.C (Kd.int .i64) w0 A x.length x := by
 obtain ⟨f, inner, ho, hr⟩ := h
 obtain ⟨A, c, he, hl, hc⟩ := (hr i x hx).2 (Nat.le_refl _)
 rcases ho.2 with ⟨h, _⟩ | ⟨g1, c1, cur, h1, h2, h3, h4, h5, h6, h7⟩
 ·cases h
 injection h1 with ha _ hc1
 injection ha with ha
 injection ha with hg1
 subst hg1
 refine ⟨A, c, ?_, by simp [World.frozen?, h3], hl, hc⟩
 rw [cell_of_row w g i cur 39 (0, 0) h3, ← Array.getElem?_toList]
 rw [← h7, List.getElem?_take] at he
 split at he
 ·exact he
 ·cases he
theorem four_put {w : World} {g t : Nat} {o0 o1 o2 o3 : Value} (h : w.heap[g]? = some (.cells #[o0, o1, o2, o3] t (0, 0))) (v0 v1 v2 v3 : Value) :
  ((((w.setCell ⟨g, 0, none⟩ v0).setCell ⟨g, 1, none⟩ v1).setCell ⟨g, 2, none⟩ v2).setCell ⟨g, 3, none⟩ v3).heap[g]? = some (.cells #[v0, v1, v2, v3] t (0, 0)) :=
 blk_put (blk_put (blk_put (blk_put h 0 v0 rfl) 1 v1 rfl) 2 v2 rfl) 3 v3 rfl
theorem four_S {α : Type} {d : Kd α} {e base : Nat} {w : World} {ok : Nat → Prop} {v : Value} {xs : List α} (h : Kd.S d e w base ok v xs) {g t : Nat} {o0 o1 o2 o3 : Value} (hb : w.heap[g]? = some (.cells #[o0, o1, o2, o3] t (0, 0))) (ht : ∀ q, q ∈ e :: d.E → q ≠ t) (v0 v1 v2 v3 : Value) :
  Kd.S d e ((((w.setCell ⟨g, 0, none⟩ v0).setCell ⟨g, 1, none⟩ v1).setCell ⟨g, 2, none⟩ v2).setCell ⟨g, 3, none⟩ v3) base ok v xs :=
 Kd.S_set (Kd.S_set (Kd.S_set (Kd.S_set h hb ht 0 v0) (blk_put hb 0 v0 rfl) ht 1 v1) (blk_put (blk_put hb 0 v0 rfl) 1 v1 rfl) ht 2 v2) (blk_put (blk_put (blk_put hb 0 v0 rfl) 1 v1 rfl) 2 v2 rfl) ht 3 v3
theorem four_far {w : World} {g g' : Nat} {o : Obj} (h : w.heap[g']? = some o) (hne : g' ≠ g) (v0 v1 v2 v3 : Value) :
  ((((w.setCell ⟨g, 0, none⟩ v0).setCell ⟨g, 1, none⟩ v1).setCell ⟨g, 2, none⟩ v2).setCell ⟨g, 3, none⟩ v3).heap[g']? = some o := by
 have f : ∀ (W : World) (j : Nat) (u : Value), W.heap[g']? = some o → (W.setCell ⟨g, j, none⟩ u).heap[g']? = some o := fun W j u hW => (Below.heap_setCell W _ u g' hne).trans hW
 exact f _ _ _ (f _ _ _ (f _ _ _ (f _ _ _ h)))
theorem four_below {w0 w : World} {g : Nat} (h : Below w0.heap.size w0 w) (hg : w0.heap.size ≤ g) (v0 v1 v2 v3 : Value) :
  Below w0.heap.size w0 ((((w.setCell ⟨g, 0, none⟩ v0).setCell ⟨g, 1, none⟩ v1).setCell ⟨g, 2, none⟩ v2).setCell ⟨g, 3, none⟩ v3) := bws (bws (bws (bws h hg) hg) hg) hg
theorem ne_types {w : World} {g g' t t' : Nat} {c c' : Array Value} (h : w.heap[g]? = some (.cells c t (0, 0))) (h' : w.heap[g']? = some (.cells c' t' (0, 0))) (ht : t ≠ t') : g ≠ g' := by
 rintro rfl
 rw [h] at h'
 simp only [Option.some.injEq, Obj.cells.injEq] at h'
 exact ht h'.2.1
def mirK (off m k : Nat) (xs : List Int) : List Int :=
 (List.range xs.length).map fun q => xs.getD (if off ≤ q ∧ q < off + m ∧ (q < off + k ∨ off + m ≤ q + k) then 2 * off + m - 1 - q else q) 0
theorem mirK_length (off m k : Nat) (xs : List Int) : (mirK off m k xs).length = xs.length := by simp [mirK]
theorem mirK_get (off m k : Nat) (xs : List Int) (q : Nat) (h : q < xs.length) : (mirK off m k xs)[q]? = some (xs.getD (if off ≤ q ∧ q < off + m ∧ (q < off + k ∨ off + m ≤ q + k) then 2 * off + m - 1 - q else q) 0) := by
 simp [mirK, h]
theorem mirK_rd (off m k : Nat) (xs : List Int) (q : Nat) (h : q < xs.length) : rdOf 0 (mirK off m k xs) (q : Int) = xs.getD (if off ≤ q ∧ q < off + m ∧ (q < off + k ∨ off + m ≤ q + k) then 2 * off + m - 1 - q else q) 0 := by
 have := mirK_get off m k xs q h
 simp [rdOf, List.getD_eq_getElem?_getD, this]
theorem mirK_zero (off m : Nat) (xs : List Int) : mirK off m 0 xs = xs := by
 apply List.ext_getElem?
 intro q
 by_cases h : q < xs.length
 ·rw [mirK_get off m 0 xs q h, if_neg (by omega)]
  simp [List.getD_eq_getElem?_getD, h]
 ·rw [List.getElem?_eq_none (by rw [mirK_length]; omega), List.getElem?_eq_none (by omega)]
theorem mirK_step (off m k : Nat) (xs : List Int) (hm : off + m ≤ xs.length) (hk : k + k + 1 < m) :
  ((mirK off m k xs).set (off + k) (xs.getD (off + (m - 1 - k)) 0)).set (off + (m - 1 - k)) (xs.getD (off + k) 0) = mirK off m (k + 1) xs := by
 apply List.ext_getElem?
 intro q
 by_cases h : q < xs.length
 ·rw [mirK_get off m (k + 1) xs q h, List.getElem?_set]
  by_cases h1 : off + (m - 1 - k) = q
  ·rw [if_pos h1, if_pos (by rw [List.length_set, mirK_length]; omega), if_pos (by omega)]
   congr 2
   omega
  ·rw [if_neg h1, List.getElem?_set]
   by_cases h2 : off + k = q
   ·rw [if_pos h2, if_pos (by rw [mirK_length]; omega), if_pos (by omega)]
    congr 2
    omega
   ·rw [if_neg h2, mirK_get off m k xs q h]
    by_cases h3 : off ≤ q ∧ q < off + m ∧ (q < off + k ∨ off + m ≤ q + k)
    ·rw [if_pos h3, if_pos (by omega)]
    ·rw [if_neg h3, if_neg (by omega)]
 ·rw [List.getElem?_eq_none (by simp [mirK_length]; omega), List.getElem?_eq_none (by rw [mirK_length]; omega)]
theorem mirK_end (off m k : Nat) (xs : List Int) (hk : m ≤ k + k + 1) (hkm : k ≤ m) : mirK off m k xs = mirK off m m xs := by
 apply List.ext_getElem?
 intro q
 by_cases h : q < xs.length
 ·rw [mirK_get off m k xs q h, mirK_get off m m xs q h]
  by_cases h3 : off ≤ q ∧ q < off + m ∧ (q < off + k ∨ off + m ≤ q + k)
  ·rw [if_pos h3, if_pos (by omega)]
  ·rw [if_neg h3]
   by_cases h4 : off ≤ q ∧ q < off + m
   ·rw [if_pos (by omega)]
    congr 2
    omega
   ·rw [if_neg (by omega)]
 ·rw [List.getElem?_eq_none (by rw [mirK_length]; omega), List.getElem?_eq_none (by rw [mirK_length]; omega)]
theorem grown_set {w w1 : World} {g : Nat} (h : w.grownBy w1 (some g)) (j : Nat) (u : Value) : w.grownBy (w1.setCell ⟨g, j, none⟩ u) (some g) :=
 ⟨h.os, h.tape, h.output, by simpa [World.setCell] using h.size, fun k hk hne => (Below.heap_setCell w1 _ u k (fun he => hne (by rw [he]))).trans (h.block k hk hne)⟩
theorem grown_drew {w w1 : World} {row : Option Nat} (h : w.grownBy w1 row) : w.grownBy w1.drew row := ⟨h.os, h.tape, h.output, h.size, h.block⟩
theorem grown_refl (w : World) (row : Option Nat) : w.grownBy w row := ⟨rfl, rfl, rfl, Nat.le_refl _, fun _ _ _ => rfl⟩
def rev_at.T3 : Bool × List (List Nat × List Nat) := (true, [([], []), ([], []), ([], []), ([], []), ([], []), ([], []), ([4, 5], [4, 5]), ([6], [6]), ([], []), ([], []), ([8, 9], [8, 9]), ([10], [10]), ([0, 1, 0, 1, 4, 5, 6, 7, 11], [0, 1]), ([12, 7, 0, 1, 4, 5, 6, 7, 11], [7, 12]), ([2, 3, 0, 1, 2, 3, 4, 5, 6, 7, 8, 9, 10, 11, 12, 13], [2, 3]), ([14, 11, 13, 0, 1, 2, 3, 4, 5, 6, 7, 8, 9, 10, 11, 12, 13], [11, 14])])
def rev_at.B3 : List Nat := [0, 0, 0, 0, 0, 0, 48, 112, 0, 0, 768, 1792, 4083, 8179, 16383, 32767]
theorem rev_at.tab3 : rtab .any (opsOf Tryz.f108 3) = rev_at.T3 := by kernel_rfl
theorem rev_at.bits3 : waitsOk rev_at.T3.2 rev_at.B3 = true := by kernel_rfl
set_option maxHeartbeats 16000000 in
set_option maxRecDepth 100000 in
theorem Reverse_at (w : World) (base : Nat) (ok : Nat → Prop) (g n cap : Nat) (xs : List Int) (hr : (Kd.int .i64).R 3 w base ok (.slice (some ⟨g, 0, none⟩) n cap) xs) (off m c : Nat) (hm : off + m ≤ xs.length) (hmx : xs.length < 17592186044416) :
  Calls Tryz.prog 108 #[.slice (some ⟨g, off, none⟩) m c] w fun e w' => e = .returned (.tuple #[]) ∧ (Kd.int .i64).R 3 w' base ok (.slice (some ⟨g, 0, none⟩) n cap) (mirK off m m xs) ∧ w.grownBy w' (some g) := by
 have HR := As0.mk hr
 have HM := As0.mk (And.intro hm hmx)
 clear hr hm hmx
 have hn : As0 (n = xs.length) := ⟨(Kd.R_reads' HR.out).1⟩
 go_enter Tryz.func108, Tryz.ntmps108
 go_wp2
 go_loopg [2, 3] m (fun kq v2 v3 w' => ∃ (i j : Int), v2 = .int .i64 i ∧ v3 = .int .i64 j ∧ As0 (0 ≤ i ∧ i + kq = m ∧ i + j = (m : Int) - 1) ∧ As0 ((Kd.int .i64).R 3 w' base ok (.slice (some ⟨g, 0, none⟩) n cap) (mirK off m i.toNat xs)) ∧ As0 (w.grownBy w' (some g)))
 case atStart => exact ⟨0, (m : Int) - 1, rfl, by congr 1; have := HM.out; unfold wrap64; omega, ⟨by omega, by omega, by omega⟩, ⟨by rw [show (0 : Int).toNat = 0 from rfl, mirK_zero]; exact HR.out⟩, ⟨grown_refl _ _⟩⟩
 case round =>
  clear HR
  obtain ⟨i, j, rfl, rfl, HI, HR, HG⟩ := hrel
  by_cases hij : i < j
  ·cases gk with
   | zero => exact absurd HI.out (by omega)
   | succ kq1 =>
   have hijb : decide (i < j) = true := decide_eq_true hij
   have h0 : 0 ≤ i := by have := HI.out; omega
   have h1 : i < (m : Int) := by have := HI.out; omega
   have h2 : 0 ≤ j := by omega
   have h3 : j < (m : Int) := by have := HI.out; omega
   have d0 : decide (0 ≤ i) = true := decide_eq_true h0
   have d1 : decide (i < (m : Int)) = true := decide_eq_true h1
   have d2 : decide (0 ≤ j) = true := decide_eq_true h2
   have d3 : decide (j < (m : Int)) = true := decide_eq_true h3
   have oi : ((off : Int) + i).toNat = off + i.toNat := by omega
   have oj : ((off : Int) + j).toNat = off + j.toNat := by omega
   obtain ⟨ci, fi⟩ := Kd.R_celln 0 HR.out ((off : Int) + i) (by omega) (by have := hn.out; have := HM.out; omega)
   obtain ⟨cj, fj⟩ := Kd.R_celln 0 HR.out ((off : Int) + j) (by omega) (by have := hn.out; have := HM.out; omega)
   rw [oi] at ci fi
   rw [oj] at cj fj
   have hJ : As0 (j.toNat = m - 1 - i.toNat ∧ (i + 1).toNat = i.toNat + 1 ∧ i.toNat + i.toNat + 1 < m) := ⟨by have := HI.out; omega, by omega, by have := HI.out; omega⟩
   have vi : rdOf 0 (mirK off m i.toNat xs) ((off : Int) + i) = xs.getD (off + i.toNat) 0 := by
    rw [show (off : Int) + i = ((off + i.toNat : Nat) : Int) by omega, mirK_rd _ _ _ _ _ (by have := HM.out; omega), if_neg (by have := hJ.out; omega)]
   have vj : rdOf 0 (mirK off m i.toNat xs) ((off : Int) + j) = xs.getD (off + j.toNat) 0 := by
    rw [show (off : Int) + j = ((off + j.toNat : Nat) : Int) by omega, mirK_rd _ _ _ _ _ (by have := HM.out; omega), if_neg (by have := hJ.out; omega)]
   rw [vi] at ci
   rw [vj] at cj
   have P1 := Kd.R_putg (Kd.R_drew HR.out) ((off : Int) + i) (xs.getD (off + j.toNat) 0)
   have P2 := Kd.R_putg P1.1 ((off : Int) + j) (xs.getD (off + i.toNat) 0)
   have cj2 := (Kd.R_celln 0 P1.1 ((off : Int) + j) (by omega) (by have := hn.out; have := HM.out; omega))
   rw [oi] at P1 cj2
   rw [oi, oj] at P2
   rw [oj] at cj2
   have c2 := cj2.1
   have f2 := cj2.2
   have PP := As0.mk P2.1
   clear P1 P2 vi vj oi oj cj2
   have hst := mirK_step off m i.toNat xs HM.out.1 hJ.out.2.2
   rw [← hJ.out.1] at hst
   have HST := As0.mk hst
   clear hst
   generalize xs.getD (off + i.toNat) 0 = vi at *
   generalize xs.getD (off + j.toNat) 0 = vj at *
   have hw : As0 (wrap64 (i + 1) = i + 1 ∧ wrap64 (j - 1) = j - 1) := ⟨by have := HI.out; have := HM.out; unfold wrap64; omega, by have := HI.out; have := HM.out; unfold wrap64; omega⟩
   replace h0 := eq_true h0
   replace h1 := eq_true h1
   replace h2 := eq_true h2
   replace h3 := eq_true h3
   clear hij
   go_wp2
   refine start_ (n := 16) (S := fun w' => w'.cell? ⟨g, off + i.toNat, none⟩ = some (.int .i64 vi) ∧ w'.cell? ⟨g, off + j.toNat, none⟩ = some (.int .i64 vj)) (ds := [13, 15]) #[false, false, false, false, false, false, false, false, false, false, false, false, false, false, false, false] (by kernel_rfl) rfl rfl ⟨ci, cj⟩ (fun hHeld => ?_); refine with_tabW rev_at.tab3 rev_at.bits3 (fun HT_ HW_ => ?_)
   replace ci : wr.drew.cell? ⟨g, off + i.toNat, none⟩ = some (.int .i64 vi) := ci
   replace cj : wr.drew.cell? ⟨g, off + j.toNat, none⟩ = some (.int .i64 vj) := cj
   replace fi : wr.drew.frozen? ⟨g, off + i.toNat, none⟩ = false := fi
   clear fj
   have HG2 := As0.mk (grown_drew HG.out)
   clear HG HR
   generalize wr.drew = wd at PP HG2 ci cj fi c2 f2 hHeld ⊢
   refine pure_ (i := 0) (N := some 14) (v := ?_) (a' := ?_) #[true, false, false, false, false, false, false, false, false, false, false, false, false, false, false, false] rfl rfl (any_of HT_.out (by kernel_rfl)) (fun _ _ _ h => h) (Or.inl ⟨by rfl, ?_⟩) ?_ ?_
   rotate_left
   ·intro w'
    go_simp
    with_reducible rfl
   rotate_left
   ·simp only [Act.put, List.setIfInBounds_toArray, List.set_cons_zero, List.set_cons_succ, i64_w, i32_w]
    rfl
   refine pure_ (i := 1) (N := some 15) (v := ?_) (a' := ?_) #[true, true, false, false, false, false, false, false, false, false, false, false, false, false, false, false] rfl rfl (any_of HT_.out (by kernel_rfl)) (fun _ _ _ h => h) (Or.inl ⟨by rfl, ?_⟩) ?_ ?_
   rotate_left
   ·intro w'
    go_simp
    with_reducible rfl
   rotate_left
   ·simp only [Act.put, List.setIfInBounds_toArray, List.set_cons_zero, List.set_cons_succ, i64_w, i32_w]
    rfl
   refine pure_ (i := 2) (N := some 16) (v := ?_) (a' := ?_) #[true, true, true, false, false, false, false, false, false, false, false, false, false, false, false, false] rfl rfl (any_of HT_.out (by kernel_rfl)) (fun _ _ _ h => h) (Or.inl ⟨by rfl, ?_⟩) ?_ ?_
   rotate_left
   ·intro w'
    go_simp
    with_reducible rfl
   rotate_left
   ·simp only [Act.put, List.setIfInBounds_toArray, List.set_cons_zero, List.set_cons_succ, i64_w, i32_w]
    rfl
   refine pure_ (i := 3) (N := some 17) (v := ?_) (a' := ?_) #[true, true, true, true, false, false, false, false, false, false, false, false, false, false, false, false] rfl rfl (any_of HT_.out (by kernel_rfl)) (fun _ _ _ h => h) (Or.inl ⟨by rfl, ?_⟩) ?_ ?_
   rotate_left
   ·intro w'
    go_simp
    with_reducible rfl
   rotate_left
   ·simp only [Act.put, List.setIfInBounds_toArray, List.set_cons_zero, List.set_cons_succ, i64_w, i32_w]
    rfl
   refine pure_ (i := 4) (N := some 18) (v := ?_) (a' := ?_) #[true, true, true, true, true, false, false, false, false, false, false, false, false, false, false, false] rfl rfl (any_of HT_.out (by kernel_rfl)) (fun _ _ _ h => h) (Or.inl ⟨by rfl, ?_⟩) ?_ ?_
   rotate_left
   ·intro w'
    go_simp
    with_reducible rfl
   rotate_left
   ·simp only [Act.put, List.setIfInBounds_toArray, List.set_cons_zero, List.set_cons_succ, i64_w, i32_w]
    rfl
   refine pure_ (i := 5) (N := some 19) (v := ?_) (a' := ?_) #[true, true, true, true, true, true, false, false, false, false, false, false, false, false, false, false] rfl rfl (any_of HT_.out (by kernel_rfl)) (fun _ _ _ h => h) (Or.inl ⟨by rfl, ?_⟩) ?_ ?_
   rotate_left
   ·intro w'
    go_simp
    with_reducible rfl
   rotate_left
   ·simp only [Act.put, List.setIfInBounds_toArray, List.set_cons_zero, List.set_cons_succ, i64_w, i32_w]
    rfl
   refine pure_ (i := 6) (N := some 20) (v := ?_) (a' := ?_) #[true, true, true, true, true, true, true, false, false, false, false, false, false, false, false, false] rfl rfl (any_of HT_.out (by kernel_rfl)) (fun _ _ _ h => h) (Or.inl ⟨by rfl, ?_⟩) ?_ ?_
   rotate_left
   ·intro w'
    go_simp
    with_reducible rfl
   rotate_left
   ·simp only [Act.put, List.setIfInBounds_toArray, List.set_cons_zero, List.set_cons_succ, i64_w, i32_w]
    rfl
   refine pure_ (i := 8) (N := some 22) (v := ?_) (a' := ?_) #[true, true, true, true, true, true, true, false, true, false, false, false, false, false, false, false] rfl rfl (any_of HT_.out (by kernel_rfl)) (fun _ _ _ h => h) (Or.inl ⟨by rfl, ?_⟩) ?_ ?_
   rotate_left
   ·intro w'
    go_simp
    with_reducible rfl
   rotate_left
   ·simp only [Act.put, List.setIfInBounds_toArray, List.set_cons_zero, List.set_cons_succ, i64_w, i32_w]
    rfl
   refine pure_ (i := 9) (N := some 23) (v := ?_) (a' := ?_) #[true, true, true, true, true, true, true, false, true, true, false, false, false, false, false, false] rfl rfl (any_of HT_.out (by kernel_rfl)) (fun _ _ _ h => h) (Or.inl ⟨by rfl, ?_⟩) ?_ ?_
   rotate_left
   ·intro w'
    go_simp
    with_reducible rfl
   rotate_left
   ·simp only [Act.put, List.setIfInBounds_toArray, List.set_cons_zero, List.set_cons_succ, i64_w, i32_w]
    rfl
   refine pure_ (i := 10) (N := some 24) (v := ?_) (a' := ?_) #[true, true, true, true, true, true, true, false, true, true, true, false, false, false, false, false] rfl rfl (any_of HT_.out (by kernel_rfl)) (fun _ _ _ h => h) (Or.inl ⟨by rfl, ?_⟩) ?_ ?_
   rotate_left
   ·intro w'
    go_simp
    with_reducible rfl
   rotate_left
   ·simp only [Act.put, List.setIfInBounds_toArray, List.set_cons_zero, List.set_cons_succ, i64_w, i32_w]
    rfl
   refine take_ (i := 7) (N := some 21) (v := ?_) (a' := ?_) #[true, true, true, true, true, true, true, true, true, true, true, false, false, false, false, false] rfl rfl (take_ofW HT_.out HW_.out (by kernel_rfl)) (fun _ _ _ h => h) (Or.inl ⟨by rfl, ?_⟩) hHeld ?_ ?_
   rotate_left
   ·rintro w' ⟨s0, s1⟩
    go_simp
    with_reducible rfl
   rotate_left
   ·simp only [Act.put, List.setIfInBounds_toArray, List.set_cons_zero, List.set_cons_succ, i64_w, i32_w]
    rfl
   refine take_ (i := 11) (N := some 25) (v := ?_) (a' := ?_) #[true, true, true, true, true, true, true, true, true, true, true, true, false, false, false, false] rfl rfl (take_ofW HT_.out HW_.out (by kernel_rfl)) (fun _ _ _ h => h) (Or.inl ⟨by rfl, ?_⟩) hHeld ?_ ?_
   rotate_left
   ·rintro w' ⟨s0, s1⟩
    go_simp
    with_reducible rfl
   rotate_left
   ·simp only [Act.put, List.setIfInBounds_toArray, List.set_cons_zero, List.set_cons_succ, i64_w, i32_w]
    rfl
   refine pure_ (i := 12) (N := some 26) (v := ?_) (a' := ?_) #[true, true, true, true, true, true, true, true, true, true, true, true, true, false, false, false] rfl rfl (any_of HT_.out (by kernel_rfl)) (fun _ _ _ h => h) (Or.inl ⟨by rfl, ?_⟩) ?_ ?_
   rotate_left
   ·intro w'
    go_simp
    with_reducible rfl
   rotate_left
   ·simp only [Act.put, List.setIfInBounds_toArray, List.set_cons_zero, List.set_cons_succ, i64_w, i32_w]
    rfl
   refine last_ (i := 13) (N := none) #[true, true, true, true, true, true, true, true, true, true, true, true, true, true, false, false] rfl rfl (one_of HT_.out (by kernel_rfl)) (by decide) (fun K hK => ?_)
   refine skip_ (w1 := ?_) (by rfl) rfl ?_ ?_
   rotate_left
   ·go_simp
    rfl
   refine hK.out _ _ ?_
   clear hK K
   refine pure_ (i := 14) (N := some 27) (v := ?_) (a' := ?_) #[true, true, true, true, true, true, true, true, true, true, true, true, true, true, true, false] rfl rfl (any_of HT_.out (by kernel_rfl)) (fun _ _ _ h => h) (Or.inl ⟨by rfl, ?_⟩) ?_ ?_
   rotate_left
   ·intro w'
    go_simp
    with_reducible rfl
   rotate_left
   ·simp only [Act.put, List.setIfInBounds_toArray, List.set_cons_zero, List.set_cons_succ, i64_w, i32_w]
    rfl
   refine last_ (i := 15) (N := none) #[true, true, true, true, true, true, true, true, true, true, true, true, true, true, true, true] rfl rfl (one_of HT_.out (by kernel_rfl)) (by decide) (fun K hK => ?_)
   refine skip_ (w1 := ?_) (by rfl) rfl ?_ ?_
   rotate_left
   ·go_simp
    rfl
   refine hK.out _ _ ?_
   clear hK K
   refine done_ (done_of HT_.out (by kernel_rfl)) ?_
   go_wp2
   go_roundg kq1
   case measure => omega
   case rel => exact ⟨i + 1, j - 1, congrArg _ hw.out.1, congrArg _ hw.out.2, ⟨by have := HI.out; omega, by have := HI.out; omega, by have := HI.out; omega⟩, ⟨by rw [hJ.out.2.1, ← HST.out]; exact PP.out⟩, ⟨grown_set (grown_set HG2.out _ _) _ _⟩⟩
  ·have hijb : decide (i < j) = false := decide_eq_false hij
   have hend := mirK_end off m i.toNat xs (by have := HI.out; omega) (by have := HI.out; omega)
   have HE := As0.mk hend
   clear hend hij
   go_wp2
   first | go_end0 | ((try simp only [Exit.inBlock, Exit.then]); refine bodyPost_ret (results_none rfl _ _ _) rfl ?_)
   exact ⟨rfl, by rw [← HE.out]; exact HR.out, HG.out⟩
def item_blank.l0 : Nat → Int → Int → Int → Int → Int → Int → Int → List (List Int) → Option (Int × Int × Int × (List (List Int)))
 | 0, _, _, _, _, _, _, _, _ => none
 | k + 1, x0, x1, x14, x15, x105000, x105001, x105002, x105003 => if x15 < x14 then (if 0 ≤ (wrap64 (x0 * x1)) then (if (wrap64 (x0 * x1) : Int).toNat ≤ 35184372088832 then (if x105003.length < 5864062014805 then (item_blank.l0 k x0 x1 x14 (wrap64 (x15 + 1)) x105000 x105001 x105002 (x105003 ++ [(List.replicate (wrap64 (x0 * x1) : Int).toNat 0)])) else (none)) else (none)) else (none)) else (some (x105000, x105001, x105002, x105003))
def item_blank.f (k : Nat) (a0 : Int) (a1 : Int) (a2 : Int) (a3 : Int) : Option (Int × Int × Int × (List (List Int))) := item_blank.l0 k a0 a1 a3 0 a0 a1 a2 ([] : List (List Int))
def item_blank.T4 : Bool × List (List Nat × List Nat) := (true, [([], []), ([0], [0]), ([], []), ([], []), ([2, 3], [2, 3]), ([4, 4], [4]), ([5], [5]), ([1, 6], [1, 6]), ([0, 1, 2, 3, 4, 5, 6, 7], []), ([8, 7, 7, 0, 1, 2, 3, 4, 5, 6, 7], [7, 8])])
def item_blank.B4 : List Nat := [0, 1, 0, 0, 12, 28, 60, 127, 255, 511]
theorem item_blank.tab4 : rtab .any (opsOf Tryz.f107 4) = item_blank.T4 := by kernel_rfl
theorem item_blank.bits4 : waitsOk item_blank.T4.2 item_blank.B4 = true := by kernel_rfl
set_option maxHeartbeats 8000000 in
set_option maxRecDepth 100000 in
theorem item_blank.calls (k : Nat) (a0 : Int) (a1 : Int) (a2 : Int) (a3 : Int) (r1 : Int) (r2 : Int) (r3 : Int) (r4 : List (List Int)) (w : World) (h : item_blank.f k a0 a1 a2 a3 = some (r1, r2, r3, r4)) :
  Calls Tryz.prog 107 #[.int .i64 a0, .int .i64 a1, .int .i64 a2, .int .i64 a3] w fun e w' => ∃ v3_ : Value, e = .returned (.agg #[.int .i64 r1, .int .i64 r2, .int .i64 r3, v3_]) ∧ Kd.S (Kd.slice 3 (Kd.int .i64)) 39 w' w.heap.size (fun _ => True) v3_ r4 ∧ Below w.heap.size w w' := by
 have hu24 := Tryz.underlying24
 have HB := As0.mk (Below.refl w.heap.size w)
 have H : (item_blank.l0 k a0 a1 a3 0 a0 a1 a2 ([] : List (List Int))) = some (r1, r2, r3, r4) := h
 clear h
 have H' := As0.mk H
 clear H
 go_enter Tryz.func107, Tryz.ntmps107
 go_wp2_with (first | ((with_reducible refine gdt (N := 8) rfl ?_); refine bxe ?hg (N := 8) ?hd (cs := #[.int .i64 0, .int .i64 0, .int .i64 0, .slice none 0 0]) (t := 24) ?hr ?_; (case hd => rfl); (case hg => rfl); (case hr => first | (go_simp; done) | (go_simp; rfl)); intro gb103 hg w5 hbox hb; have n0_ := As0.mk (bwp (by repeat (first | (with_reducible first | exact HB.out | apply bwa | apply pwN | apply bwd) | exact HB.out)) hb); have n1_ := As0.mk (hbox); have n2_ := As0.mk ((by rw [hg]; exact (bwz (by repeat (first | (with_reducible first | exact HB.out | apply bwa | apply pwN | apply bwd) | exact HB.out))) : w.heap.size ≤ gb103)); have n3_ := As0.mk ((by rw [hg]; exact (bwz (by repeat (first | (with_reducible first | exact HB.out | apply bwa | apply pwN | apply bwd) | exact HB.out))) : w.heap.size ≤ gb103)); clear HB; have HB := n0_; have BK103 := n1_; have GW103 := n2_; have GE103 := n3_; clear n0_ n1_ n2_ n3_; clear hb hbox hg) | ((with_reducible refine gdt (N := 9) rfl ?_); refine bxe ?hg (N := 9) ?hd (cs := #[.int .i64 0, .int .i64 0, .int .i64 0, .slice none 0 0]) (t := 24) ?hr ?_; (case hd => rfl); (case hg => rfl); (case hr => first | (go_simp; done) | (go_simp; rfl)); intro gb104 hg w6 hbox hb; have n0_ := As0.mk (bkb (g := gb103) (o := .cells #[.int .i64 0, .int .i64 0, .int .i64 0, .slice none 0 0] 24 (0, 0)) (by (with_reducible repeat (first | refine bkN ?_ _ | refine bkd ?_ | refine bka ?_ _)); exact BK103.out) hb); have n1_ := As0.mk (bwp (by repeat (first | (with_reducible first | exact HB.out | apply bwa | apply pwN | apply bwd | refine bws ?_ GE103.out) | exact HB.out)) hb); have n2_ := As0.mk (hbox); have n3_ := As0.mk ((by rw [hg]; exact (bwz (by repeat (first | (with_reducible first | exact HB.out | apply bwa | apply pwN | apply bwd | refine bws ?_ GE103.out) | exact HB.out))) : w.heap.size ≤ gb104)); have n4_ := As0.mk ((by rw [hg]; exact (bwz (by repeat (first | (with_reducible first | exact HB.out | apply bwa | apply pwN | apply bwd | refine bws ?_ GE103.out) | exact HB.out))) : w.heap.size ≤ gb104)); have n5_ := As0.mk ((by rw [hg]; exact Nat.ne_of_lt (blk_lt (g := gb103) (o := .cells #[.int .i64 0, .int .i64 0, .int .i64 0, .slice none 0 0] 24 (0, 0)) (by (with_reducible repeat (first | refine bkN ?_ _ | refine bkd ?_ | refine bka ?_ _)); exact BK103.out)) : gb103 ≠ gb104)); have n6_ := As0.mk ((by rw [hg]; exact Nat.ne_of_gt (blk_lt (g := gb103) (o := .cells #[.int .i64 0, .int .i64 0, .int .i64 0, .slice none 0 0] 24 (0, 0)) (by (with_reducible repeat (first | refine bkN ?_ _ | refine bkd ?_ | refine bka ?_ _)); exact BK103.out)) : gb104 ≠ gb103)); clear BK103; clear HB; have BK103 := n0_; have HB := n1_; have BK104 := n2_; have GW104 := n3_; have GE104 := n4_; have NB103_104 := n5_; have NB104_103 := n6_; clear n0_ n1_ n2_ n3_ n4_ n5_ n6_; clear hb hbox hg; have hnb7 := NB104_103.out; have hnc7 := NB103_104.out; have hcz8_0 : w6.cell? ⟨gb104, 0, none⟩ = some (.int .i64 0) := (bkc BK104.out 0).trans rfl; have hcz8_1 : w6.cell? ⟨gb104, 1, none⟩ = some (.int .i64 0) := (bkc BK104.out 1).trans rfl; have hcz8_2 : w6.cell? ⟨gb104, 2, none⟩ = some (.int .i64 0) := (bkc BK104.out 2).trans rfl; have hcz8_3 : w6.cell? ⟨gb104, 3, none⟩ = some (.slice none 0 0) := (bkc BK104.out 3).trans rfl; have hfz8_0 := bkz BK104.out 0; have hfz8_1 := bkz BK104.out 1; have hfz8_2 := bkz BK104.out 2; have hfz8_3 := bkz BK104.out 3))
 go_loopg [15] k (fun kq v15 w' => ∃ (x15_1 : Int) (x105003_1 : List (List Int)) (u105003 : Value), v15 = .int .i64 x15_1 ∧ As0 (item_blank.l0 kq a0 a1 a3 x15_1 a0 a1 a2 x105003_1 = some (r1, r2, r3, r4)) ∧ As0 (kq ≤ k) ∧ As0 (Kd.S (Kd.slice 3 (Kd.int .i64)) 39 w' w.heap.size (fun _ => True) u105003 x105003_1) ∧ As0 (w'.heap[gb103]? = some (.cells #[.int .i64 0, .int .i64 0, .int .i64 0, (.slice none 0 0)] 24 (0, 0))) ∧ As0 (w'.heap[gb104]? = some (.cells #[.int .i64 a0, .int .i64 a1, .int .i64 a2, u105003] 24 (0, 0))) ∧ As0 (Below w.heap.size w w'))
 case atStart => exact ⟨(0), (([] : List (List Int))), (.slice none 0 0), (by first | rfl | (simp; done) | (simp [*]; done)), H', ⟨Nat.le_refl _⟩, ⟨by first | exact Kd.S_nil _ _ _ _ _ | exact Kd.N_nil _ _ _ _ _ | exact Kd.V_nil _ _ _ _ _ | exact Kd.Q_nil _ _ _ _ _ | exact Kd.R_nil _ _ _ _ _⟩, ⟨by (with_reducible repeat (first | refine bkN ?_ _ | refine bkd ?_ | refine bka ?_ _)); refine bkf ?_ NB103_104.out _; (with_reducible repeat (first | refine bkN ?_ _ | refine bkd ?_ | refine bka ?_ _)); refine bkf ?_ NB103_104.out _; (with_reducible repeat (first | refine bkN ?_ _ | refine bkd ?_ | refine bka ?_ _)); refine bkf ?_ NB103_104.out _; (with_reducible repeat (first | refine bkN ?_ _ | refine bkd ?_ | refine bka ?_ _)); refine bkf ?_ NB103_104.out _; (with_reducible repeat (first | refine bkN ?_ _ | refine bkd ?_ | refine bka ?_ _)); exact BK103.out⟩, ⟨by (with_reducible repeat (first | refine bkN ?_ _ | refine bkd ?_ | refine bka ?_ _)); refine blk_put (cs := #[.int .i64 a0, .int .i64 a1, .int .i64 a2, .slice none 0 0]) ?_ 3 _ rfl; (with_reducible repeat (first | refine bkN ?_ _ | refine bkd ?_ | refine bka ?_ _)); refine blk_put (cs := #[.int .i64 a0, .int .i64 a1, .int .i64 0, .slice none 0 0]) ?_ 2 _ rfl; (with_reducible repeat (first | refine bkN ?_ _ | refine bkd ?_ | refine bka ?_ _)); refine blk_put (cs := #[.int .i64 a0, .int .i64 0, .int .i64 0, .slice none 0 0]) ?_ 1 _ rfl; (with_reducible repeat (first | refine bkN ?_ _ | refine bkd ?_ | refine bka ?_ _)); refine blk_put (cs := #[.int .i64 0, .int .i64 0, .int .i64 0, .slice none 0 0]) ?_ 0 _ rfl; (with_reducible repeat (first | refine bkN ?_ _ | refine bkd ?_ | refine bka ?_ _)); exact BK104.out⟩, ⟨by repeat (first | (with_reducible first | exact HB.out | apply bwa | apply pwN | apply bwd | refine bws ?_ GE103.out | refine bws ?_ GE104.out) | exact HB.out)⟩⟩
 case round =>
  clear H'
  try clear c1
  try clear p2
  try clear c7
  try clear hcz8_0
  try clear hcz8_1
  try clear hcz8_2
  try clear hcz8_3
  try clear hfz8_0
  try clear hfz8_1
  try clear hfz8_2
  try clear hfz8_3
  obtain ⟨x15_1, x105003_1, u105003, rfl, HA, HK1, HO_105003, BK103, BK104, HB⟩ := hrel
  cases gk with
  | zero => exact absurd HA.out (by simp [item_blank.l0])
  | succ k1 =>
   have H := HA.out
   clear HA
   simp only [item_blank.l0] at H
   by_cases c9 : x15_1 < a3
   ·rw [if_pos c9] at H
    have c9b0 : decide (x15_1 < a3) = true := decide_eq_true c9
    clear c9
    obtain ⟨ji10, hji10⟩ : ∃ j_ : Int, (wrap64 (a0 * a1)) = j_ := ⟨_, rfl⟩
    replace H : (if 0 ≤ (ji10) then (if (ji10 : Int).toNat ≤ 35184372088832 then (if x105003_1.length < 5864062014805 then (item_blank.l0 k1 a0 a1 a3 (wrap64 (x15_1 + 1)) a0 a1 a2 (x105003_1 ++ [(List.replicate (ji10 : Int).toNat 0)])) else (none)) else (none)) else (none)) = some (r1, r2, r3, r4) := by first | (rw [hji10] at H; exact H) | (simp only [hji10] at H ⊢; exact H)
    have hji10w : (IntKind.i64.wrap (a0 * a1)) = ji10 := (i64_w _).trans hji10
    by_cases c11 : 0 ≤ (ji10)
    ·rw [if_pos c11] at H
     have c11b0 := eq_true c11
     have c11b1 : decide (0 ≤ (ji10)) = true := decide_eq_true c11
     clear c11
     by_cases c12 : (ji10 : Int).toNat ≤ 35184372088832
     ·rw [if_pos c12] at H
      have c12b0 := eq_true c12
      have c12b1 : decide ((ji10 : Int).toNat ≤ 35184372088832) = true := decide_eq_true c12
      clear c12
      obtain ⟨y105, hy105⟩ : ∃ y_ : List Int, y_ = (List.replicate (ji10 : Int).toNat 0) := ⟨_, rfl⟩
      replace H : (if x105003_1.length < 5864062014805 then (item_blank.l0 k1 a0 a1 a3 (wrap64 (x15_1 + 1)) a0 a1 a2 (x105003_1 ++ [y105])) else (none)) = some (r1, r2, r3, r4) := by first | (rw [hy105]; with_reducible exact H) | (have H2_ := (Option.bind_some _ _).symm.trans H; rw [hy105]; with_reducible exact H2_) | (have H2_ := (Option.bind_some _ _).symm.trans H; with_reducible exact H2_) | with_reducible exact H | (rw [hy105]; exact H) | exact H
      have Ny105 := As0.mk hy105
      clear hy105
      by_cases c13 : x105003_1.length < 5864062014805
      ·rw [if_pos c13] at H
       have LMc13 := As0.mk c13
       clear c13
       obtain ⟨y108, hy108⟩ : ∃ y_ : List (List Int), y_ = (x105003_1 ++ [y105]) := ⟨_, rfl⟩
       replace H : (item_blank.l0 k1 a0 a1 a3 (wrap64 (x15_1 + 1)) a0 a1 a2 y108) = some (r1, r2, r3, r4) := by first | (rw [hy108]; with_reducible exact H) | (have H2_ := (Option.bind_some _ _).symm.trans H; rw [hy108]; with_reducible exact H2_) | (have H2_ := (Option.bind_some _ _).symm.trans H; with_reducible exact H2_) | with_reducible exact H | (rw [hy108]; exact H) | exact H
       have Ny108 := As0.mk hy108
       clear hy108
       have H' := As0.mk H
       clear H
       try go_wp2
       have n0_ := As0.mk (Kd.S_drew HO_105003.out)
       have n1_ := As0.mk (bkd BK103.out)
       have n2_ := As0.mk (bkd BK104.out)
       have n3_ := As0.mk (bwd HB.out)
       clear HO_105003
       clear BK103
       clear BK104
       clear HB
       have HO_105003 := n0_
       have BK103 := n1_
       have BK104 := n2_
       have HB := n3_
       clear n0_ n1_ n2_ n3_
       refine start_ (n := 10) (S := fun w' => w'.cell? ⟨gb104, 0, none⟩ = some (.int .i64 a0) ∧ w'.cell? ⟨gb104, 1, none⟩ = some (.int .i64 a1) ∧ w'.cell? ⟨gb104, 2, none⟩ = some (.int .i64 a2) ∧ w'.cell? ⟨gb104, 3, none⟩ = some (u105003)) (ds := [9]) #[false, false, false, false, false, false, false, false, false, false] (by kernel_rfl) rfl rfl ⟨(bkc BK104.out 0).trans rfl, (bkc BK104.out 1).trans rfl, (bkc BK104.out 2).trans rfl, (bkc BK104.out 3).trans rfl⟩ (fun hHeld => ?_); refine with_tabW item_blank.tab4 item_blank.bits4 (fun HT_ HW_ => ?_)
       generalize wr.drew = w14 at HO_105003 BK103 BK104 HB hHeld ⊢
       refine pure_ (i := 0) (N := some 17) (v := ?_) (a' := ?_) #[true, false, false, false, false, false, false, false, false, false] rfl rfl (any_of HT_.out (by kernel_rfl)) (fun _ _ _ h => h) (Or.inl ⟨by rfl, ?_⟩) ?_ ?_
       rotate_left
       ·intro w'
        go_simp
        with_reducible rfl
       rotate_left
       ·simp only [Act.put, List.setIfInBounds_toArray, List.set_cons_zero, List.set_cons_succ, i64_w, i32_w]
        rfl
       refine pure_ (i := 2) (N := some 19) (v := ?_) (a' := ?_) #[true, false, true, false, false, false, false, false, false, false] rfl rfl (any_of HT_.out (by kernel_rfl)) (fun _ _ _ h => h) (Or.inl ⟨by rfl, ?_⟩) ?_ ?_
       rotate_left
       ·intro w'
        go_simp
        with_reducible rfl
       rotate_left
       ·simp only [Act.put, List.setIfInBounds_toArray, List.set_cons_zero, List.set_cons_succ, i64_w, i32_w]
        rfl
       refine pure_ (i := 3) (N := some 20) (v := ?_) (a' := ?_) #[true, false, true, true, false, false, false, false, false, false] rfl rfl (any_of HT_.out (by kernel_rfl)) (fun _ _ _ h => h) (Or.inl ⟨by rfl, ?_⟩) ?_ ?_
       rotate_left
       ·intro w'
        go_simp
        with_reducible rfl
       rotate_left
       ·simp only [Act.put, List.setIfInBounds_toArray, List.set_cons_zero, List.set_cons_succ, i64_w, i32_w]
        rfl
       refine pure_ (i := 4) (N := some 21) (v := ?_) (a' := ?_) #[true, false, true, true, true, false, false, false, false, false] rfl rfl (any_of HT_.out (by kernel_rfl)) (fun _ _ _ h => h) (Or.inl ⟨by rfl, ?_⟩) ?_ ?_
       rotate_left
       ·intro w'
        go_simp
        with_reducible rfl
       rotate_left
       ·simp only [Act.put, List.setIfInBounds_toArray, List.set_cons_zero, List.set_cons_succ, i64_w, i32_w]
        rfl
       refine take_ (i := 1) (N := some 18) (v := ?_) (a' := ?_) #[true, true, true, true, true, false, false, false, false, false] rfl rfl (take_ofW HT_.out HW_.out (by kernel_rfl)) (fun _ _ _ h => h) (Or.inl ⟨by rfl, ?_⟩) hHeld ?_ ?_
       rotate_left
       ·rintro w' ⟨s0, s1, s2, s3⟩
        go_simp
        with_reducible rfl
       rotate_left
       ·simp only [Act.put, List.setIfInBounds_toArray, List.set_cons_zero, List.set_cons_succ, i64_w, i32_w]
        rfl
       refine one_ (i := 5) (N := some 22) #[true, true, true, true, true, true, false, false, false, false] rfl rfl (one_of HT_.out (by kernel_rfl)) (by decide) (fun K hK => ?_)
       refine Kd.R_make_step (Kd.int .i64) _ 3 (by rfl) (N := 22) rfl 39 _ _ rfl ji10 rfl rfl Tryz.underlying39 (.int .i64 0) 8 info3 rfl (by decide) (by omega) 0 (ok := fun _ => True) (okp := fun _ => True) rfl (fun _ hk => hk) trivial (of_decide_eq_true (by first | (with_reducible assumption) | assumption)) (Nat.le_trans (Nat.mul_le_mul_right _ (of_decide_eq_true (by first | (with_reducible assumption) | assumption) : ji10.toNat ≤ 35184372088832)) (by omega)) (Below.refl _ _) (Nat.le_refl _) ?_
       intro v106 w15 ho16 hb hg_ hnew_
       clear hg_ hnew_
       (first | rw [← Ny105.out] at ho16 | (simp only [Int.reduceToNat] at ho16; rw [← Ny105.out] at ho16))
       have n0_ := As0.mk (Kd.S_elder' (by (with_reducible repeat (first | apply Kd.S_alloc | apply Kd.S_drewN | apply Kd.S_drew)); exact HO_105003.out) (Kd.R_base ho16) hb)
       have n1_ := As0.mk (Kd.R_lower ho16 (bwz (by repeat (first | (with_reducible first | exact HB.out | apply bwa | apply pwN | apply bwd | refine bws ?_ GE103.out | refine bws ?_ GE104.out) | exact HB.out))))
       have n2_ := As0.mk (bkb (g := gb103) (o := .cells #[.int .i64 0, .int .i64 0, .int .i64 0, .slice none 0 0] 24 (0, 0)) (by (with_reducible repeat (first | refine bkN ?_ _ | refine bkd ?_ | refine bka ?_ _)); exact BK103.out) hb)
       have n3_ := As0.mk (bkb (g := gb104) (o := .cells #[.int .i64 a0, .int .i64 a1, .int .i64 a2, u105003] 24 (0, 0)) (by (with_reducible repeat (first | refine bkN ?_ _ | refine bkd ?_ | refine bka ?_ _)); exact BK104.out) hb)
       have n4_ := As0.mk (bwp (by repeat (first | (with_reducible first | exact HB.out | apply bwa | apply pwN | apply bwd | refine bws ?_ GE103.out | refine bws ?_ GE104.out) | exact HB.out)) hb)
       clear HO_105003
       clear BK103
       clear BK104
       clear HB
       have HO_105003 := n0_
       have HO107 := n1_
       have BK103 := n2_
       have BK104 := n3_
       have HB := n4_
       clear n0_ n1_ n2_ n3_ n4_
       clear hb ho16
       obtain ⟨Ao18, co18, eo18⟩ := Kd.R_slice HO107.out
       (first | subst eo18 | (injection eo18 with f1_ f2_ f3_; have f4_ := f1_.symm; have f5_ := f3_.symm; clear f1_ f2_ f3_; subst f4_; subst f5_))
       refine hK.out _ _ ⟨(bkc BK104.out 0).trans rfl, (bkc BK104.out 1).trans rfl, (bkc BK104.out 2).trans rfl, (bkc BK104.out 3).trans rfl⟩ (fun hHeld => ?_)
       clear hK K
       refine norm_ (a' := ?_) ?_ ?_
       rotate_left
       ·show Act.put _ (some 22) _ = _
        simp only [Act.put, List.setIfInBounds_toArray, List.set_cons_zero, List.set_cons_succ, i64_w, i32_w]
        rfl
       refine one_ (i := 6) (N := some 23) #[true, true, true, true, true, true, true, false, false, false] rfl rfl (one_of HT_.out (by kernel_rfl)) (by decide) (fun K hK => ?_)
       refine value_ (w1 := ?_) (v := ?_) (by rfl) rfl ?_ ?_
       rotate_left 2
       ·go_simp
        constructor
        ·rfl
        ·rfl
       refine hK.out _ _ ⟨(bkc (bka BK104.out _) 0).trans rfl, (bkc (bka BK104.out _) 1).trans rfl, (bkc (bka BK104.out _) 2).trans rfl, (bkc (bka BK104.out _) 3).trans rfl⟩ (fun hHeld => ?_)
       clear hK K
       refine norm_ (a' := ?_) ?_ ?_
       rotate_left
       ·show Act.put _ (some 23) _ = _
        simp only [Act.put, List.setIfInBounds_toArray, List.set_cons_zero, List.set_cons_succ, i64_w, i32_w]
        rfl
       refine one_ (i := 7) (N := some 24) #[true, true, true, true, true, true, true, true, false, false] rfl rfl (one_of HT_.out (by kernel_rfl)) (by decide) (fun K hK => ?_)
       refine Kd.S_append_step (Kd.slice 3 (Kd.int .i64)) (w0 := w) w.heap.size (by rfl) (.tmp 18) (.tmp 23) 22 39 (.slice none 0 0) 24 rfl Tryz.underlying22 info39 rfl (by decide) (by omega) u105003 x105003_1 y105 [.slice Ao18 y105.length co18] (fun _ => True) (fun k_ => some k_ = (.slice Ao18 y105.length co18 : Value).ownBlock) rfl rfl ?aP (fun k_ hk_ => ((Kd.R_mono (ok' := fun k_ => ((fun _ => True)) k_ ∧ some k_ ≠ (u105003 : Value).ownBlock) (Kd.R_apart' (HO107.out) (Kd.S_typed HO_105003.out) (by decide)) (fun k_ hk => ⟨trivial, hk.2⟩))).1 k_ hk_.symm) ?aF ?aO ?aB ?aS ?aL ?_
       (case aP => exact Kd.M_row (Kd.R_mono (Kd.R_tight rfl (Kd.R_mono (ok' := fun k_ => ((fun _ => True)) k_ ∧ some k_ ≠ (u105003 : Value).ownBlock) (Kd.R_apart' (HO107.out) (Kd.S_typed HO_105003.out) (by decide)) (fun k_ hk => ⟨trivial, hk.2⟩))) (fun _ h_ => h_)))
       (case aB => exact (by repeat (first | (with_reducible first | exact HB.out | apply bwa | apply pwN | apply bwd | refine bws ?_ GE103.out | refine bws ?_ GE104.out) | exact HB.out)))
       (case aF => exact (fun _ _ => trivial))
       (case aO => exact (by (with_reducible repeat (first | apply Kd.S_alloc | apply Kd.S_drewN | apply Kd.S_drew)); exact Kd.S_mono HO_105003.out (fun k_ hk => ⟨trivial, fun e_ => hk.2 e_⟩)))
       (case aS => exact (bwz (by repeat (first | (with_reducible first | exact HB.out | apply bwa | apply pwN | apply bwd | refine bws ?_ GE103.out | refine bws ?_ GE104.out) | exact HB.out))))
       (case aL => have := LMc13.out; omega)
       intro v109 w17 ho hb hg hat
       rw [← Ny108.out] at ho
       have n0_ := As0.mk (blk_grown (g := gb103) (o := .cells #[.int .i64 0, .int .i64 0, .int .i64 0, .slice none 0 0] 24 (0, 0)) (by (with_reducible repeat (first | refine bkN ?_ _ | refine bkd ?_ | refine bka ?_ _)); exact BK103.out) hg (Kd.S_ne HO_105003.out BK103.out (by decide)))
       have n1_ := As0.mk (blk_grown (g := gb104) (o := .cells #[.int .i64 a0, .int .i64 a1, .int .i64 a2, u105003] 24 (0, 0)) (by (with_reducible repeat (first | refine bkN ?_ _ | refine bkd ?_ | refine bka ?_ _)); exact BK104.out) hg (Kd.S_ne HO_105003.out BK104.out (by decide)))
       have n2_ := As0.mk (hb)
       have n3_ := As0.mk (ho)
       clear BK103
       clear BK104
       clear HB
       clear HO_105003
       clear HO107
       have BK103 := n0_
       have BK104 := n1_
       have HB := n2_
       have HO110 := n3_
       clear n0_ n1_ n2_ n3_
       clear ho hb hg hat
       obtain ⟨Ao19, co19, eo19⟩ := Kd.S_slice HO110.out
       (first | subst eo19 | (injection eo19 with f1_ f2_ f3_; have f4_ := f1_.symm; have f5_ := f3_.symm; clear f1_ f2_ f3_; subst f4_; subst f5_))
       refine hK.out _ _ ⟨(bkc BK104.out 0).trans rfl, (bkc BK104.out 1).trans rfl, (bkc BK104.out 2).trans rfl, (bkc BK104.out 3).trans rfl⟩ (fun hHeld => ?_)
       clear hK K
       refine norm_ (a' := ?_) ?_ ?_
       rotate_left
       ·show Act.put _ (some 24) _ = _
        simp only [Act.put, List.setIfInBounds_toArray, List.set_cons_zero, List.set_cons_succ, i64_w, i32_w]
        rfl
       refine pure_ (i := 8) (N := some 25) (v := ?_) (a' := ?_) #[true, true, true, true, true, true, true, true, true, false] rfl rfl (any_of HT_.out (by kernel_rfl)) (fun _ _ _ h => h) (Or.inl ⟨by rfl, ?_⟩) ?_ ?_
       rotate_left
       ·intro w'
        go_simp
        with_reducible rfl
       rotate_left
       ·simp only [Act.put, List.setIfInBounds_toArray, List.set_cons_zero, List.set_cons_succ, i64_w, i32_w]
        rfl
       refine last_ (i := 9) (N := none) #[true, true, true, true, true, true, true, true, true, true] rfl rfl (one_of HT_.out (by kernel_rfl)) (by decide) (fun K hK => ?_)
       have hs20 : w17.cell? ⟨gb104, 3, none⟩ = some (u105003) := (bkc BK104.out 3).trans rfl
       have hfs20 := bkz BK104.out 3
       have hns20_0 := NB103_104.out
       have hms20_0 := NB104_103.out
       refine skip_ (w1 := ?_) (by rfl) rfl ?_ ?_
       rotate_left
       ·go_simp
        rfl
       refine hK.out _ _ ?_
       clear hK K
       refine done_ (done_of HT_.out (by kernel_rfl)) ?_
       try go_wp2
       go_roundg k1
       case measure => have := HK1.out; omega
       case rel => exact ⟨(wrap64 (x15_1 + 1)), (y108), (.slice Ao19 y108.length co19), (by first | rfl | (simp; done) | (simp [*]; done)), H', ⟨by have := HK1.out; omega⟩, ⟨by (with_reducible repeat (first | apply Kd.S_alloc | apply Kd.S_drewN | apply Kd.S_drew)); exact Kd.S_mono (Kd.S_far (p := ⟨gb104, 3, none⟩) (Kd.S_types HO110.out BK104.out (by decide)) (fun _ hk => hk.2) (.slice Ao19 y108.length co19)) (fun _ hk => trivial)⟩, ⟨by (with_reducible repeat (first | refine bkN ?_ _ | refine bkd ?_ | refine bka ?_ _)); refine bkf ?_ NB103_104.out _; (with_reducible repeat (first | refine bkN ?_ _ | refine bkd ?_ | refine bka ?_ _)); exact BK103.out⟩, ⟨by (with_reducible repeat (first | refine bkN ?_ _ | refine bkd ?_ | refine bka ?_ _)); refine blk_put (cs := #[.int .i64 a0, .int .i64 a1, .int .i64 a2, u105003]) ?_ 3 _ rfl; (with_reducible repeat (first | refine bkN ?_ _ | refine bkd ?_ | refine bka ?_ _)); exact BK104.out⟩, ⟨by repeat (first | (with_reducible first | exact HB.out | apply bwa | apply pwN | apply bwd | refine bws ?_ GE103.out | refine bws ?_ GE104.out) | exact HB.out)⟩⟩
      ·rw [if_neg c13] at H
       exact absurd H (by simp)
     ·rw [if_neg c12] at H
      exact absurd H (by simp)
    ·rw [if_neg c11] at H
     exact absurd H (by simp)
   ·rw [if_neg c9] at H
    have c9b0 : decide (x15_1 < a3) = false := decide_eq_false c9
    clear c9
    simp only [Option.some.injEq, Prod.mk.injEq] at H
    obtain ⟨rfl, rfl, rfl, rfl⟩ := H
    have hnb21 := NB104_103.out
    have hnc21 := NB103_104.out
    have hcz22_0 : wr.cell? ⟨gb104, 0, none⟩ = some (.int .i64 a0) := (bkc BK104.out 0).trans rfl
    have hcz22_1 : wr.cell? ⟨gb104, 1, none⟩ = some (.int .i64 a1) := (bkc BK104.out 1).trans rfl
    have hcz22_2 : wr.cell? ⟨gb104, 2, none⟩ = some (.int .i64 a2) := (bkc BK104.out 2).trans rfl
    have hcz22_3 : wr.cell? ⟨gb104, 3, none⟩ = some (u105003) := (bkc BK104.out 3).trans rfl
    have hfz22_0 := bkz BK104.out 0
    have hfz22_1 := bkz BK104.out 1
    have hfz22_2 := bkz BK104.out 2
    have hfz22_3 := bkz BK104.out 3
    have hcz23_0 : wr.cell? ⟨gb103, 0, none⟩ = some (.int .i64 0) := (bkc BK103.out 0).trans rfl
    have hcz23_1 : wr.cell? ⟨gb103, 1, none⟩ = some (.int .i64 0) := (bkc BK103.out 1).trans rfl
    have hcz23_2 : wr.cell? ⟨gb103, 2, none⟩ = some (.int .i64 0) := (bkc BK103.out 2).trans rfl
    have hcz23_3 : wr.cell? ⟨gb103, 3, none⟩ = some (.slice none 0 0) := (bkc BK103.out 3).trans rfl
    have hfz23_0 := bkz BK103.out 0
    have hfz23_1 := bkz BK103.out 1
    have hfz23_2 := bkz BK103.out 2
    have hfz23_3 := bkz BK103.out 3
    obtain ⟨Ao24, co24, eo24⟩ := Kd.S_slice HO_105003.out
    subst eo24
    go_wp2
    refine bodyPost_ret (results_cell_row rfl _ _ gb103 24 #[.int .i64 a0, .int .i64 a1, .int .i64 a2, .slice Ao24 x105003_1.length co24] (0, 0) _ rfl (by (with_reducible repeat (first | refine bkN ?_ _ | refine bkd ?_ | refine bka ?_ _)); refine blk_put (cs := #[.int .i64 a0, .int .i64 a1, .int .i64 a2, .slice none 0 0]) ?_ 3 _ rfl; (with_reducible repeat (first | refine bkN ?_ _ | refine bkd ?_ | refine bka ?_ _)); refine blk_put (cs := #[.int .i64 a0, .int .i64 a1, .int .i64 0, .slice none 0 0]) ?_ 2 _ rfl; (with_reducible repeat (first | refine bkN ?_ _ | refine bkd ?_ | refine bka ?_ _)); refine blk_put (cs := #[.int .i64 a0, .int .i64 0, .int .i64 0, .slice none 0 0]) ?_ 1 _ rfl; (with_reducible repeat (first | refine bkN ?_ _ | refine bkd ?_ | refine bka ?_ _)); refine blk_put (cs := #[.int .i64 0, .int .i64 0, .int .i64 0, .slice none 0 0]) ?_ 0 _ rfl; (with_reducible repeat (first | refine bkN ?_ _ | refine bkd ?_ | refine bka ?_ _)); exact BK103.out) Tryz.underlying24 rfl (by kernel_rfl)) rfl ?_
    exact ⟨_, by first | rfl | (simp [errW_none, errW_some] <;> rfl) | (simp [*, errW_none, errW_some] <;> rfl), by (with_reducible repeat (first | apply Kd.S_alloc | apply Kd.S_drewN | apply Kd.S_drew)); exact Kd.S_mono (Kd.S_far (p := ⟨gb103, 3, none⟩) (Kd.S_far (p := ⟨gb103, 2, none⟩) (Kd.S_far (p := ⟨gb103, 1, none⟩) (Kd.S_far (p := ⟨gb103, 0, none⟩) (Kd.S_types HO_105003.out BK103.out (by decide)) (fun _ hk => hk.2) (.int .i64 a0)) (fun _ hk => hk.2) (.int .i64 a1)) (fun _ hk => hk.2) (.int .i64 a2)) (fun _ hk => hk.2) (.slice Ao24 x105003_1.length co24)) (fun _ hk => trivial), by repeat (first | (with_reducible first | exact HB.out | apply bwa | apply pwN | apply bwd | refine bws ?_ GE103.out | refine bws ?_ GE104.out) | exact HB.out)⟩
theorem S_row {w : World} {base : Nat} {ok : Nat → Prop} {g n cap : Nat} {planes : List (List Int)} (h : Kd.S (Kd.slice 3 (Kd.int .i64)) 39 w base ok (.slice (some ⟨g, 0, none⟩) n cap) planes) (p : Int) (h0 : 0 ≤ p) (h1 : p < n) (row : List Int) (hrow : planes[p.toNat]? = some row) (hpos : 0 < row.length) :
  ∃ (gq cq : Nat) (oki : Nat → Prop), w.cell? ⟨g, p.toNat, none⟩ = some (.slice (some ⟨gq, 0, none⟩) row.length cq) ∧ (∀ k, oki k → ok k ∧ k ≠ g) ∧ gq ≠ g ∧ ok gq ∧ base ≤ gq ∧ gq < w.heap.size ∧ (∃ cells, w.heap[gq]? = some (.cells cells 3 (0, 0))) ∧
   (Kd.int .i64).R 3 w base oki (.slice (some ⟨gq, 0, none⟩) row.length cq) row ∧ row.length ≤ cq ∧
   ∀ (w1 : World) (row' : List Int), w.grownBy w1 (some gq) → (Kd.int .i64).R 3 w1 base oki (.slice (some ⟨gq, 0, none⟩) row.length cq) row' → Kd.S (Kd.slice 3 (Kd.int .i64)) 39 w1 base ok (.slice (some ⟨g, 0, none⟩) n cap) (planes.set p.toNat row') := by
 obtain ⟨oki, c, hcl, hM, hcc, hok, hback⟩ := Kd.S_borrow h [] p h0 h1
 have hg : planes.getD p.toNat [] = row := by simp [List.getD_eq_getElem?_getD, hrow]
 rw [hg] at hM
 obtain ⟨v, rfl, hR⟩ := hM
 obtain ⟨gq, cq, rfl, hb, hlt, cells, hcells⟩ := Kd.R_form hR hpos
 have hcell := hcc 0 _ rfl
 have ho := hok gq (hR.1 gq rfl)
 refine ⟨gq, cq, oki, ?_, fun k hk => ⟨(hok k hk).1, fun he => (hok k hk).2 (by rw [he]; rfl)⟩, fun he => ho.2 (by rw [he]; rfl), ho.1, hb, hlt, ⟨cells, hcells⟩, hR, (Kd.R_reads' hR).2.1, fun w1 row' hg1 hR1 => ?_⟩
 ·rw [add_at] at hcell
  simpa [Kd.slice] using hcell
 ·exact hback hg1 (fun k hk => by injection hk with hk; subst hk; exact hR.1 gq rfl) ⟨_, rfl, hR1⟩
def rot1 (ow oh : Nat) (l : List Int) : List Int := (List.range (ow * oh)).map fun q => l.getD ((oh - 1 - q % oh) * ow + q / oh) 0
theorem rot1_length (ow oh : Nat) (l : List Int) : (rot1 ow oh l).length = ow * oh := by simp [rot1]
def nx (ow oh : Nat) (ps : List (List Int)) (p t : Nat) : List (List Int) :=
 (List.range ps.length).map fun j => if j < p then rot1 ow oh (ps.getD j []) else if j = p then (rot1 ow oh (ps.getD j [])).take t ++ List.replicate (ow * oh - t) 0 else List.replicate (ow * oh) 0
theorem nx_length (ow oh : Nat) (ps : List (List Int)) (p t : Nat) : (nx ow oh ps p t).length = ps.length := by simp [nx]
theorem nx_get (ow oh : Nat) (ps : List (List Int)) (p t j : Nat) (h : j < ps.length) : (nx ow oh ps p t)[j]? = some (if j < p then rot1 ow oh (ps.getD j []) else if j = p then (rot1 ow oh (ps.getD j [])).take t ++ List.replicate (ow * oh - t) 0 else List.replicate (ow * oh) 0) := by
 simp [nx, h]
theorem nx_zero (ow oh : Nat) (ps : List (List Int)) : nx ow oh ps 0 0 = List.replicate ps.length (List.replicate (ow * oh) 0) := by
 apply List.ext_getElem?
 intro j
 by_cases h : j < ps.length
 ·rw [nx_get _ _ _ _ _ _ h, List.getElem?_replicate, if_pos h]
  by_cases hj : j = 0 <;> simp [hj]
 ·rw [List.getElem?_eq_none (by rw [nx_length]; omega), List.getElem?_eq_none (by rw [List.length_replicate]; omega)]
theorem nx_next (ow oh : Nat) (ps : List (List Int)) (p : Nat) : nx ow oh ps p (ow * oh) = nx ow oh ps (p + 1) 0 := by
 apply List.ext_getElem?
 intro j
 by_cases h : j < ps.length
 ·rw [nx_get _ _ _ _ _ _ h, nx_get _ _ _ _ _ _ h]
  rcases Nat.lt_trichotomy j p with hj | hj | hj
  ·rw [if_pos hj, if_pos (by omega)]
  ·subst hj
   rw [if_neg (by omega), if_pos rfl, if_pos (by omega), List.take_of_length_le (by rw [rot1_length]; exact Nat.le_refl _)]
   simp
  ·rw [if_neg (by omega), if_neg (by omega), if_neg (by omega)]
   by_cases hj' : j = p + 1 <;> simp [hj']
 ·rw [List.getElem?_eq_none (by rw [nx_length]; omega), List.getElem?_eq_none (by rw [nx_length]; omega)]
theorem nx_last (ow oh : Nat) (ps : List (List Int)) : nx ow oh ps ps.length 0 = ps.map (rot1 ow oh) := by
 apply List.ext_getElem?
 intro j
 by_cases h : j < ps.length
 ·rw [nx_get _ _ _ _ _ _ h, if_pos h]
  simp [h]
 ·rw [List.getElem?_eq_none (by rw [nx_length]; omega), List.getElem?_eq_none (by rw [List.length_map]; omega)]
def nxr (ow oh : Nat) (l : List Int) (t : Nat) : List Int := (rot1 ow oh l).take t ++ List.replicate (ow * oh - t) 0
theorem nxr_length (ow oh : Nat) (l : List Int) (t : Nat) (ht : t ≤ ow * oh) : (nxr ow oh l t).length = ow * oh := by simp [nxr, rot1_length]; omega
theorem nx_row (ow oh : Nat) (ps : List (List Int)) (p t : Nat) (l : List Int) (h : ps[p]? = some l) : (nx ow oh ps p t)[p]? = some (nxr ow oh l t) := by
 have hl := (List.getElem?_eq_some_iff.1 h).1
 rw [nx_get _ _ _ _ _ _ hl, if_neg (by omega), if_pos rfl]
 simp [nxr, List.getD_eq_getElem?_getD, h]
theorem take_set {α : Type} (l : List α) (z : α) (t N : Nat) (hN : l.length = N) (ht : t < N) (x : α) (hx : l[t]? = some x) : (l.take t ++ List.replicate (N - t) z).set t x = l.take (t + 1) ++ List.replicate (N - (t + 1)) z := by
 have h1 : (l.take t).length = t := by rw [List.length_take]; omega
 rw [List.set_append, h1, if_neg (by omega), Nat.sub_self, show N - t = (N - (t + 1)) + 1 by omega, List.replicate_succ, List.set_cons_zero, List.take_add_one, hx]
 simp
theorem nx_set (ow oh : Nat) (ps : List (List Int)) (p t : Nat) (l : List Int) (h : ps[p]? = some l) (ht : t < ow * oh) (x : Int) (hx : x = l.getD ((oh - 1 - t % oh) * ow + t / oh) 0) :
  (nx ow oh ps p t).set p ((nxr ow oh l t).set t x) = nx ow oh ps p (t + 1) := by
 have hl := (List.getElem?_eq_some_iff.1 h).1
 have hx' : (rot1 ow oh l)[t]? = some x := by rw [hx]; simp [rot1, ht]
 unfold nxr
 rw [take_set _ _ t _ (rot1_length ow oh l) ht x hx']
 apply List.ext_getElem?
 intro j
 by_cases hj : p = j
 ·subst hj
  rw [List.getElem?_set_self (by rw [nx_length]; exact hl)]
  have h2 := nx_row ow oh ps p (t + 1) l h
  rw [h2]
  rfl
 ·rw [List.getElem?_set_ne hj]
  by_cases hjl : j < ps.length
  ·rw [nx_get _ _ _ _ _ _ hjl, nx_get _ _ _ _ _ _ hjl]
   by_cases h3 : j < p
   ·rw [if_pos h3, if_pos h3]
   ·rw [if_neg h3, if_neg h3, if_neg (by omega), if_neg (by omega)]
  ·rw [List.getElem?_eq_none (by rw [nx_length]; omega), List.getElem?_eq_none (by rw [nx_length]; omega)]
def flipT (ow : Nat) (l : List Int) : Nat → List Int
 | 0 => l
 | t + 1 => mirK (t * ow) ow ow (flipT ow l t)
theorem flipT_length (ow : Nat) (l : List Int) (t : Nat) : (flipT ow l t).length = l.length := by
 induction t with
 | zero => rfl
 | succ t ih => rw [flipT, mirK_length, ih]
def flipP (ow oh : Nat) (l : List Int) : List Int := flipT ow l oh
def fx (ow oh : Nat) (ps : List (List Int)) (p t : Nat) : List (List Int) :=
 (List.range ps.length).map fun j => if j < p then flipP ow oh (ps.getD j []) else if j = p then flipT ow (ps.getD j []) t else ps.getD j []
theorem fx_length (ow oh : Nat) (ps : List (List Int)) (p t : Nat) : (fx ow oh ps p t).length = ps.length := by simp [fx]
theorem fx_get (ow oh : Nat) (ps : List (List Int)) (p t j : Nat) (h : j < ps.length) : (fx ow oh ps p t)[j]? = some (if j < p then flipP ow oh (ps.getD j []) else if j = p then flipT ow (ps.getD j []) t else ps.getD j []) := by
 simp [fx, h]
theorem fx_zero (ow oh : Nat) (ps : List (List Int)) : fx ow oh ps 0 0 = ps := by
 apply List.ext_getElem?
 intro j
 by_cases h : j < ps.length
 ·rw [fx_get _ _ _ _ _ _ h, if_neg (by omega)]
  by_cases hj : j = 0 <;> simp [hj, flipT, List.getD_eq_getElem?_getD] <;> simp_all
 ·rw [List.getElem?_eq_none (by rw [fx_length]; omega), List.getElem?_eq_none (by omega)]
theorem fx_next (ow oh : Nat) (ps : List (List Int)) (p : Nat) : fx ow oh ps p oh = fx ow oh ps (p + 1) 0 := by
 apply List.ext_getElem?
 intro j
 by_cases h : j < ps.length
 ·rw [fx_get _ _ _ _ _ _ h, fx_get _ _ _ _ _ _ h]
  rcases Nat.lt_trichotomy j p with hj | hj | hj
  ·rw [if_pos hj, if_pos (by omega)]
  ·subst hj
   rw [if_neg (by omega), if_pos rfl, if_pos (by omega)]
   rfl
  ·rw [if_neg (by omega), if_neg (by omega), if_neg (by omega)]
   by_cases hj' : j = p + 1 <;> simp [hj', flipT]
 ·rw [List.getElem?_eq_none (by rw [fx_length]; omega), List.getElem?_eq_none (by rw [fx_length]; omega)]
theorem fx_last (ow oh : Nat) (ps : List (List Int)) : fx ow oh ps ps.length 0 = ps.map (flipP ow oh) := by
 apply List.ext_getElem?
 intro j
 by_cases h : j < ps.length
 ·rw [fx_get _ _ _ _ _ _ h, if_pos h]
  simp [h]
 ·rw [List.getElem?_eq_none (by rw [fx_length]; omega), List.getElem?_eq_none (by rw [List.length_map]; omega)]
theorem fx_row (ow oh : Nat) (ps : List (List Int)) (p t : Nat) (l : List Int) (h : ps[p]? = some l) : (fx ow oh ps p t)[p]? = some (flipT ow l t) := by
 have hl := (List.getElem?_eq_some_iff.1 h).1
 rw [fx_get _ _ _ _ _ _ hl, if_neg (by omega), if_pos rfl]
 simp [List.getD_eq_getElem?_getD, h]
theorem fx_set (ow oh : Nat) (ps : List (List Int)) (p t : Nat) (l : List Int) (h : ps[p]? = some l) :
  (fx ow oh ps p t).set p (mirK (t * ow) ow ow (flipT ow l t)) = fx ow oh ps p (t + 1) := by
 have hl := (List.getElem?_eq_some_iff.1 h).1
 apply List.ext_getElem?
 intro j
 by_cases hj : p = j
 ·subst hj
  rw [List.getElem?_set_self (by rw [fx_length]; exact hl), fx_row ow oh ps p (t + 1) l h]
  rfl
 ·rw [List.getElem?_set_ne hj]
  by_cases hjl : j < ps.length
  ·rw [fx_get _ _ _ _ _ _ hjl, fx_get _ _ _ _ _ _ hjl]
   by_cases h3 : j < p
   ·rw [if_pos h3, if_pos h3]
   ·rw [if_neg h3, if_neg h3, if_neg (by omega), if_neg (by omega)]
  ·rw [List.getElem?_eq_none (by rw [fx_length]; omega), List.getElem?_eq_none (by rw [fx_length]; omega)]
def turnN : Nat → Nat × Nat × List (List Int) → Nat × Nat × List (List Int)
 | 0, s => s
 | k + 1, s => turnN k (s.2.1, s.1, s.2.2.map (rot1 s.1 s.2.1))
def okPic (s : Nat × Nat × List (List Int)) : Prop := 1 ≤ s.1 ∧ s.1 ≤ 1000 ∧ 1 ≤ s.2.1 ∧ s.2.1 ≤ 1000 ∧ s.2.2.length ≤ 1000 ∧ ∀ l ∈ s.2.2, l.length = s.1 * s.2.1
theorem okPic.turn {s : Nat × Nat × List (List Int)} (h : okPic s) : okPic (s.2.1, s.1, s.2.2.map (rot1 s.1 s.2.1)) := by
 obtain ⟨h1, h2, h3, h4, h5, h6⟩ := h
 refine ⟨h3, h4, h1, h2, by simpa using h5, fun l hl => ?_⟩
 obtain ⟨l', _, rfl⟩ := List.mem_map.1 hl
 rw [rot1_length, Nat.mul_comm]
theorem blank_l0 (x0 x1 a2 : Int) (hx0 : 1 ≤ x0 ∧ x0 ≤ 1000) (hx1 : 1 ≤ x1 ∧ x1 ≤ 1000) (n : Nat) (hn : n ≤ 1000) : ∀ (k j : Nat), k + j = n → item_blank.l0 (k + 1) x0 x1 n j x0 x1 a2 (List.replicate j (List.replicate (x0 * x1).toNat 0)) = some (x0, x1, a2, List.replicate n (List.replicate (x0 * x1).toNat 0)) := by
 have hm : 0 ≤ x0 * x1 := Int.mul_nonneg (by omega) (by omega)
 have hm2 : x0 * x1 ≤ 1000 * 1000 := Int.le_trans (Int.mul_le_mul_of_nonneg_left hx1.2 (by omega)) (Int.mul_le_mul_of_nonneg_right hx0.2 (by omega))
 have hw : wrap64 (x0 * x1) = x0 * x1 := by unfold wrap64; omega
 intro k
 induction k with
 | zero =>
  intro j hj
  have : j = n := by omega
  subst this
  rw [item_blank.l0, if_neg (by omega)]
 | succ k ih =>
  intro j hj
  rw [item_blank.l0, if_pos (by omega), hw, if_pos hm, if_pos (by omega), if_pos (by rw [List.length_replicate]; omega)]
  have := ih (j + 1) (by omega)
  rw [show wrap64 ((j : Int) + 1) = ((j + 1 : Nat) : Int) by unfold wrap64; omega]
  rw [List.replicate_succ'] at this
  exact this
theorem blank_is (x0 x1 a2 : Int) (hx0 : 1 ≤ x0 ∧ x0 ≤ 1000) (hx1 : 1 ≤ x1 ∧ x1 ≤ 1000) (n : Nat) (hn : n ≤ 1000) : item_blank.f (n + 1) x0 x1 a2 n = some (x0, x1, a2, List.replicate n (List.replicate (x0 * x1).toNat 0)) :=
 blank_l0 x0 x1 a2 hx0 hx1 n hn n 0 (by omega)
def Ev (P : Nat → Prop) : Prop := ∃ K, ∀ k, K ≤ k → P k
theorem Ev.step {α : Type} {f g : Nat → α} {R : α} (h : ∀ k, f (k + 1) = g k) (hg : Ev fun k => g k = R) : Ev fun k => f k = R := by
 obtain ⟨K, hK⟩ := hg
 exact ⟨K + 1, fun k hk => by obtain ⟨m, rfl⟩ : ∃ m, k = m + 1 := ⟨k - 1, by omega⟩; show f (m + 1) = R; rw [h]; exact hK m (by omega)⟩
theorem Ev.const {α : Type} {f : Nat → α} {R : α} (h : ∀ k, f (k + 1) = R) : Ev fun k => f k = R :=
 ⟨1, fun k hk => by obtain ⟨m, rfl⟩ : ∃ m, k = m + 1 := ⟨k - 1, by omega⟩; exact h m⟩
theorem Ev.bind {α β : Type} {f : Nat → Option α} {g : Nat → α → Option β} {x : α} {R : Option β} (hf : Ev fun k => f k = some x) (hg : Ev fun k => g k x = R) : Ev fun k => (f k).bind (g k) = R := by
 obtain ⟨K, hK⟩ := hf
 obtain ⟨L, hL⟩ := hg
 exact ⟨K + L, fun k hk => by show (f k).bind (g k) = R; rw [hK k (by omega), Option.bind_some]; exact hL k (by omega)⟩
theorem Ev.mono {P Q : Nat → Prop} (h : Ev P) (hpq : ∀ k, P k → Q k) : Ev Q := by
 obtain ⟨K, hK⟩ := h
 exact ⟨K, fun k hk => hpq k (hK k hk)⟩
def r00_CopyInts.l0 : Nat → List Int → List Int → Int → Option (List Int)
 | 0, _, _, _ => none
 | k + 1, x0, x3, x4 => if x4 < (x0.length : Int) then (if 0 ≤ x4 then (if x3.length < 17592186044416 then (r00_CopyInts.l0 k x0 (x3 ++ [rd x0 x4]) (wrap64 (x4 + 1))) else (none)) else (none)) else (some x3)
def r00_CopyInts.f (k : Nat) (l0 : List Int) : Option (List Int) := if ((l0.length : Int) : Int).toNat ≤ 35184372088832 then (r00_CopyInts.l0 k l0 (([] : List Int)) 0) else (none)
def r00_CopyRows.l0 : Nat → List (List Int) → List (List Int) → Int → Option ((List (List Int)))
 | 0, _, _, _ => none
 | k + 1, x0, x3, x4 => if x4 < (x0.length : Int) then (if 0 ≤ x4 then ((r00_CopyInts.f k (rd_L1 x0 x4)).bind fun t147 => (if x3.length < 5864062014805 then (r00_CopyRows.l0 k x0 (x3 ++ [t147]) (wrap64 (x4 + 1))) else (none))) else (none)) else (some x3)
def r00_CopyRows.f (k : Nat) (l0 : List (List Int)) : Option ((List (List Int))) := if ((l0.length : Int) : Int).toNat ≤ 11728124029610 then (r00_CopyRows.l0 k l0 (([] : List (List Int))) 0) else (none)
def r00_CopyImage.f (k : Nat) (a0_0 : Int) (a0_1 : Int) (a0_2 : Int) (l0_3 : List (List Int)) : Option (Int × Int × Int × (List (List Int))) := (r00_CopyRows.f k l0_3).bind fun t156 => (some (a0_0, a0_1, a0_2, t156))
theorem w64_nat (n : Nat) (h : n ≤ 1000000000000) : wrap64 (n : Int) = (n : Int) := by unfold wrap64; omega
section
variable (w h : Nat) (hw : 1 ≤ w ∧ w ≤ 1000) (hh : 1 ≤ h ∧ h ≤ 1000) (c : Int) (ps : List (List Int)) (q i : Int) (fl : Bool) (o1 o2 o3 : Int)
end
def item_clone.f (a0_0 a0_1 a0_2 : Int) (l0_3 : List (List Int)) : Option (Int × Int × Int × List (List Int)) :=
 if l0_3.length < 5864062014805 ∧ (l0_3.all fun p => decide (p.length < 17592186044416)) = true then some (a0_0, a0_1, a0_2, l0_3) else none
def item_clone.T5 : Bool × List (List Nat × List Nat) := (true, [([], []), ([0], [0]), ([], []), ([], []), ([3], [3]), ([], []), ([4, 5], [4, 5]), ([6], [6]), ([7], [7]), ([1, 2, 0, 1, 2, 3, 4, 5, 6, 7, 8], [1, 2]), ([9, 8, 8, 0, 1, 2, 3, 4, 5, 6, 7, 8], [8, 9])])
def item_clone.B5 : List Nat := [0, 1, 0, 0, 8, 0, 56, 120, 248, 511, 1023]
theorem item_clone.tab5 : rtab .any (opsOf Tryz.f67 5) = item_clone.T5 := by kernel_rfl
theorem item_clone.bits5 : waitsOk item_clone.T5.2 item_clone.B5 = true := by kernel_rfl
set_option maxHeartbeats 16000000 in
set_option maxRecDepth 100000 in
theorem item_clone.calls (a0_0 : Int) (a0_1 : Int) (a0_2 : Int) (A0_3 : Option Addr) (c0_3 : Nat) (l0_3 : List (List Int)) (r1 : Int) (r2 : Int) (r3 : Int) (r4 : List (List Int)) (w : World) (hr0_3 : Kd.C (Kd.slice 3 (Kd.int .i64)) w A0_3 l0_3.length l0_3) (hc0_3 : l0_3.length ≤ c0_3) (h : item_clone.f a0_0 a0_1 a0_2 l0_3 = some (r1, r2, r3, r4)) :
  Calls Tryz.prog 67 #[.agg #[.int .i64 a0_0, .int .i64 a0_1, .int .i64 a0_2, .slice A0_3 l0_3.length c0_3]] w fun e w' => ∃ v3_ : Value, e = .returned (.agg #[.int .i64 r1, .int .i64 r2, .int .i64 r3, v3_]) ∧ Kd.S (Kd.slice 3 (Kd.int .i64)) 39 w' w.heap.size (fun _ => True) v3_ r4 ∧ Below w.heap.size w w' := by
 unfold item_clone.f at h
 split at h
 case isFalse => cases h
 case isTrue hk =>
 injection h with h
 injection h with h1 h2
 injection h2 with h2 h3
 injection h3 with h3 h4
 subst h1; subst h2; subst h3; subst h4
 have hu24 := Tryz.underlying24
 have HK := As0.mk hk
 have HR := As0.mk hr0_3
 clear hk hr0_3 hc0_3
 go_enter Tryz.func67, Tryz.ntmps67
 go_wp2_with (first | ((with_reducible refine gdt (N := 1) rfl ?_); refine bxe ?hg (N := 1) ?hd (cs := #[.int .i64 a0_0, .int .i64 a0_1, .int .i64 a0_2, .slice A0_3 l0_3.length c0_3]) (t := 24) ?hr ?_; (case hd => rfl); (case hg => rfl); (case hr => first | (go_simp; done) | (go_simp; rfl)); intro gb hggb w2 hboxgb hbgb; have BKb := As0.mk hboxgb; have HBb := As0.mk hbgb; have hgle : As0 (w.heap.size ≤ gb ∧ gb < w2.heap.size) := ⟨by omega, blk_lt hboxgb⟩; clear hboxgb hbgb hggb) | ((with_reducible refine gdt (N := 2) rfl ?_); refine bxe ?hg (N := 2) ?hd (cs := #[.int .i64 0, .int .i64 0, .int .i64 0, .slice none 0 0]) (t := 24) ?hr ?_; (case hd => rfl); (case hg => rfl); (case hr => first | (go_simp; done) | (go_simp; rfl)); intro gr hggr w3 hboxgr hbgr; have BKr := As0.mk hboxgr; have BKb2 := As0.mk (bkb BKb.out hbgr); have HB3 := As0.mk (pwt HBb.out hbgr); have hgr : As0 (w.heap.size ≤ gr ∧ gr < w3.heap.size ∧ gb ≠ gr) := ⟨by have := HBb.out.size; omega, blk_lt hboxgr, by have := hgle.out; omega⟩; have k0 := (bkc BKb2.out 0).trans rfl; have k1 := (bkc BKb2.out 1).trans rfl; have k2 := (bkc BKb2.out 2).trans rfl; have k3 := (bkc BKb2.out 3).trans rfl; clear hboxgr hbgr hggr) | (go_at_call 119; (with_reducible refine (Clone_rows A0_3 c0_3 l0_3 w _ HR.out HB3.out HK.out.1).mono ?_); rintro e w4 ⟨v, rfl, hv, hb⟩; have HV := As0.mk (ClI.start (Kd.R_lower hv HB3.out.size)); obtain ⟨A4, c4, hv4⟩ := HV.out.size; subst hv4; have BKb4 := As0.mk (bkb BKb2.out hb); have BKr4 := As0.mk (bkb BKr.out hb); have HB4 := As0.mk (pwt HB3.out hb); have k3 := (bkc BKb4.out 3).trans rfl; have f3 := bkz BKb4.out 3; have m3 : ∀ u : Value, (w4.setCell ⟨gb, 3, none⟩ u).cell? ⟨gb, 3, none⟩ = some u := fun u => (bkc (blk_put (cs' := #[.int .i64 a0_0, .int .i64 a0_1, .int .i64 a0_2, u]) BKb4.out 3 u rfl) 3).trans rfl; clear hv hb))
 clear k0 k1 k2 k3 f3
 go_loopg [11] l0_3.length (fun kq v11 w' => ∃ (i : Int), v11 = .int .i64 i ∧ As0 (0 ≤ i ∧ i + kq = l0_3.length) ∧ As0 (ClI w w' i.toNat (.slice A4 l0_3.length c4) l0_3) ∧ As0 (w'.heap[gb]? = some (.cells #[.int .i64 a0_0, .int .i64 a0_1, .int .i64 a0_2, .slice A4 l0_3.length c4] 24 (0, 0))) ∧ As0 (w'.heap[gr]? = some (.cells #[.int .i64 0, .int .i64 0, .int .i64 0, .slice none 0 0] 24 (0, 0))) ∧ As0 (Below w.heap.size w w'))
 case atStart => exact ⟨0, rfl, ⟨by omega, by omega⟩, ⟨(HV.out).set BKb4.out (by decide) 3 _⟩, ⟨blk_put BKb4.out 3 _ rfl⟩, ⟨bkf BKr4.out (fun he => hgr.out.2.2 he.symm) _⟩, ⟨bws HB4.out hgle.out.1⟩⟩
 case round =>
  clear HV BKb BKb2 BKb4 BKr BKr4 HB4 m3
  obtain ⟨i, rfl, HI, HV, BKb, BKr, HB⟩ := hrel
  cases gk with
  | zero =>
   have hge : decide (i < (l0_3.length : Int)) = false := by have := HI.out; simp; omega
   have hi : i.toNat = l0_3.length := by have := HI.out; omega
   rw [hi] at HV
   have S1 := As0.mk HV.out.done
   have k0 : wr.cell? ⟨gb, 0, none⟩ = some (.int .i64 a0_0) := (bkc BKb.out 0).trans rfl
   have k1 : wr.cell? ⟨gb, 1, none⟩ = some (.int .i64 a0_1) := (bkc BKb.out 1).trans rfl
   have k2 : wr.cell? ⟨gb, 2, none⟩ = some (.int .i64 a0_2) := (bkc BKb.out 2).trans rfl
   have k3 : wr.cell? ⟨gb, 3, none⟩ = some (.slice A4 l0_3.length c4) := (bkc BKb.out 3).trans rfl
   have q0 : wr.cell? ⟨gr, 0, none⟩ = some (.int .i64 0) := (bkc BKr.out 0).trans rfl
   have q1 : wr.cell? ⟨gr, 1, none⟩ = some (.int .i64 0) := (bkc BKr.out 1).trans rfl
   have q2 : wr.cell? ⟨gr, 2, none⟩ = some (.int .i64 0) := (bkc BKr.out 2).trans rfl
   have q3 : wr.cell? ⟨gr, 3, none⟩ = some (.slice none 0 0) := (bkc BKr.out 3).trans rfl
   have qf0 := bkz BKr.out 0
   have qf1 := bkz BKr.out 1
   have qf2 := bkz BKr.out 2
   have qf3 := bkz BKr.out 3
   go_wp2
   refine bodyPost_ret (results_cell_row rfl _ _ gr 24 #[.int .i64 a0_0, .int .i64 a0_1, .int .i64 a0_2, .slice A4 l0_3.length c4] (0, 0) _ rfl (four_put BKr.out _ _ _ _) Tryz.underlying24 rfl (by kernel_rfl)) rfl ?_
   exact ⟨_, rfl, four_S S1.out BKr.out (by decide) _ _ _ _, four_below HB.out hgr.out.1 _ _ _ _⟩
  | succ kq1 =>
   have h0 : 0 ≤ i := by have := HI.out; omega
   have h1 : i < (l0_3.length : Int) := by have := HI.out; omega
   have hge : decide (i < (l0_3.length : Int)) = true := decide_eq_true h1
   have hg0 : decide (0 ≤ i) = true := decide_eq_true h0
   have hil : i.toNat < l0_3.length := by omega
   have hx : l0_3[i.toNat]? = some l0_3[i.toNat] := List.getElem?_eq_getElem hil
   have HPL : As0 (l0_3[i.toNat].length < 17592186044416) := ⟨by have := List.all_eq_true.1 HK.out.2 _ (List.getElem_mem hil); simpa using this⟩
   generalize l0_3[i.toNat] = x at hx HPL
   have HX := As0.mk hx
   clear hx
   obtain ⟨gg, cg, cells, hv, hgw, hgb⟩ := HV.out.form (by omega)
   injection hv with hv1 _ hv2
   subst hv1; subst hv2
   obtain ⟨Ax, cx, hcx, hfx, hlx, hCx⟩ := HV.out.read HX.out
   have HG := As0.mk hgb
   have HGW := As0.mk hgw
   have HCX := As0.mk hCx
   have HLX := As0.mk hlx
   clear hgb hgw hlx hCx
   have hw : As0 (wrap64 (i + 1) = i + 1 ∧ (i + 1).toNat = i.toNat + 1) := ⟨by have := HI.out; have := HK.out.1; unfold wrap64; omega, by omega⟩
   replace h0 := eq_true h0
   replace h1 := eq_true h1
   clear hil
   go_wp2
   refine start_ (n := 11) (S := fun w' => w'.cell? ⟨gb, 3, none⟩ = some (.slice (some ⟨gg, 0, none⟩) l0_3.length c4) ∧ w'.cell? ⟨gg, i.toNat, none⟩ = some (.slice Ax x.length cx)) (ds := [10]) #[false, false, false, false, false, false, false, false, false, false, false] (by kernel_rfl) rfl rfl ⟨(bkc BKb.out 3).trans rfl, hcx⟩ (fun hHeld => ?_); refine with_tabW item_clone.tab5 item_clone.bits5 (fun HT_ HW_ => ?_)
   have n1 := As0.mk (HV.out.below (bwd (Below.refl _ _)))
   have n2 := As0.mk (bkd BKb.out)
   have n3 := As0.mk (bkd BKr.out)
   have n4 := As0.mk (bwd HB.out)
   have n5 := As0.mk (bkd HG.out)
   clear HV BKb BKr HB HG
   have HV := n1; have BKb := n2; have BKr := n3; have HB := n4; have HG := n5
   clear n1 n2 n3 n4 n5
   replace hcx : wr.drew.cell? ⟨gg, i.toNat, none⟩ = some (.slice Ax x.length cx) := hcx
   clear hfx
   generalize wr.drew = wd at HV BKb BKr HB HG hcx hHeld ⊢
   refine pure_ (i := 0) (N := some 14) (v := ?_) (a' := ?_) #[true, false, false, false, false, false, false, false, false, false, false] rfl rfl (any_of HT_.out (by kernel_rfl)) (fun _ _ _ h => h) (Or.inl ⟨by rfl, ?_⟩) ?_ ?_
   rotate_left
   ·intro w'
    go_simp
    with_reducible rfl
   rotate_left
   ·simp only [Act.put, List.setIfInBounds_toArray, List.set_cons_zero, List.set_cons_succ, i64_w, i32_w]
    rfl
   refine pure_ (i := 2) (N := some 16) (v := ?_) (a' := ?_) #[true, false, true, false, false, false, false, false, false, false, false] rfl rfl (any_of HT_.out (by kernel_rfl)) (fun _ _ _ h => h) (Or.inl ⟨by rfl, ?_⟩) ?_ ?_
   rotate_left
   ·intro w'
    go_simp
    with_reducible rfl
   rotate_left
   ·simp only [Act.put, List.setIfInBounds_toArray, List.set_cons_zero, List.set_cons_succ, i64_w, i32_w]
    rfl
   refine pure_ (i := 3) (N := some 17) (v := ?_) (a' := ?_) #[true, false, true, true, false, false, false, false, false, false, false] rfl rfl (any_of HT_.out (by kernel_rfl)) (fun _ _ _ h => h) (Or.inl ⟨by rfl, ?_⟩) ?_ ?_
   rotate_left
   ·intro w'
    go_simp
    with_reducible rfl
   rotate_left
   ·simp only [Act.put, List.setIfInBounds_toArray, List.set_cons_zero, List.set_cons_succ, i64_w, i32_w]
    rfl
   refine pure_ (i := 5) (N := some 19) (v := ?_) (a' := ?_) #[true, false, true, true, false, true, false, false, false, false, false] rfl rfl (any_of HT_.out (by kernel_rfl)) (fun _ _ _ h => h) (Or.inl ⟨by rfl, ?_⟩) ?_ ?_
   rotate_left
   ·intro w'
    go_simp
    with_reducible rfl
   rotate_left
   ·simp only [Act.put, List.setIfInBounds_toArray, List.set_cons_zero, List.set_cons_succ, i64_w, i32_w]
    rfl
   refine take_ (i := 1) (N := some 15) (v := ?_) (a' := ?_) #[true, true, true, true, false, true, false, false, false, false, false] rfl rfl (take_ofW HT_.out HW_.out (by kernel_rfl)) (fun _ _ _ h => h) (Or.inl ⟨by rfl, ?_⟩) hHeld ?_ ?_
   rotate_left
   ·rintro w' ⟨s0, s1⟩
    go_simp
    with_reducible rfl
   rotate_left
   ·simp only [Act.put, List.setIfInBounds_toArray, List.set_cons_zero, List.set_cons_succ, i64_w, i32_w]
    rfl
   refine take_ (i := 4) (N := some 18) (v := ?_) (a' := ?_) #[true, true, true, true, true, true, false, false, false, false, false] rfl rfl (take_ofW HT_.out HW_.out (by kernel_rfl)) (fun _ _ _ h => h) (Or.inl ⟨by rfl, ?_⟩) hHeld ?_ ?_
   rotate_left
   ·rintro w' ⟨s0, s1⟩
    go_simp
    with_reducible rfl
   rotate_left
   ·simp only [Act.put, List.setIfInBounds_toArray, List.set_cons_zero, List.set_cons_succ, i64_w, i32_w]
    rfl
   refine pure_ (i := 6) (N := some 20) (v := ?_) (a' := ?_) #[true, true, true, true, true, true, true, false, false, false, false] rfl rfl (any_of HT_.out (by kernel_rfl)) (fun _ _ _ h => h) (Or.inl ⟨by rfl, ?_⟩) ?_ ?_
   rotate_left
   ·intro w'
    go_simp
    with_reducible rfl
   rotate_left
   ·simp only [Act.put, List.setIfInBounds_toArray, List.set_cons_zero, List.set_cons_succ, i64_w, i32_w]
    rfl
   refine take_ (i := 7) (N := some 21) (v := ?_) (a' := ?_) #[true, true, true, true, true, true, true, true, false, false, false] rfl rfl (take_ofW HT_.out HW_.out (by kernel_rfl)) (fun _ _ _ h => h) (Or.inl ⟨by rfl, ?_⟩) hHeld ?_ ?_
   rotate_left
   ·rintro w' ⟨s0, s1⟩
    go_simp
    with_reducible rfl
   rotate_left
   ·simp only [Act.put, List.setIfInBounds_toArray, List.set_cons_zero, List.set_cons_succ, i64_w, i32_w]
    rfl
   refine one_ (i := 8) (N := some 22) #[true, true, true, true, true, true, true, true, true, false, false] rfl rfl (one_of HT_.out (by kernel_rfl)) (by decide) (fun K hK => ?_)
   refine goes_ Tryz.func120 (by kernel_rfl) rfl #[.slice Ax x.length cx] (by rfl) rfl rfl (by (try simp only [List.map_toArray, List.map_cons, List.map_nil]); first | done | rfl) ?_
   with_reducible refine (slices_Clone_int_int_120.calls Ax cx x x _ ?s1 HLX.out ?s3).mono ?_
   (case s1 => exact Kd.C_below HCX.out HB.out)
   (case s3 => exact if_pos HPL.out)
   rintro e w9 ⟨v9, rfl, hv9, hb9⟩
   obtain ⟨A9, c9, rfl⟩ := Kd.R_slice hv9
   refine ⟨_, rfl, ?_⟩
   have HV9 := As0.mk hv9
   have HB9 := As0.mk hb9
   have BKb9 := As0.mk (bkb BKb.out hb9)
   have BKr9 := As0.mk (bkb BKr.out hb9)
   have HG9 := As0.mk (bkb HG.out hb9)
   clear hv9 hb9
   refine hK.out _ _ ⟨(bkc BKb9.out 3).trans rfl, (HB9.out.cell (World.block_lt_of_cell? wd _ hcx)).trans hcx⟩ (fun hHeld => ?_)
   clear hK K
   refine norm_ (a' := ?_) ?_ ?_
   rotate_left
   ·show Act.put _ (some 22) _ = _
    simp only [Act.put, List.setIfInBounds_toArray, List.set_cons_zero, List.set_cons_succ, i64_w, i32_w]
    rfl
   refine pure_ (i := 9) (N := some 23) (v := ?_) (a' := ?_) #[true, true, true, true, true, true, true, true, true, true, false] rfl rfl (any_of HT_.out (by kernel_rfl)) (fun _ _ _ h => h) (Or.inl ⟨by rfl, ?_⟩) ?_ ?_
   rotate_left
   ·intro w'
    go_simp
    with_reducible rfl
   rotate_left
   ·simp only [Act.put, List.setIfInBounds_toArray, List.set_cons_zero, List.set_cons_succ, i64_w, i32_w]
    rfl
   refine last_ (i := 10) (N := none) #[true, true, true, true, true, true, true, true, true, true, true] rfl rfl (one_of HT_.out (by kernel_rfl)) (by decide) (fun K hK => ?_)
   have k9 := (HB9.out.cell (World.block_lt_of_cell? wd _ hcx)).trans hcx
   have f9 := bkz HG9.out i.toNat
   refine skip_ (w1 := ?_) (by rfl) rfl ?_ ?_
   rotate_left
   ·go_simp
    rfl
   refine hK.out _ _ ?_
   clear hK K
   refine done_ (done_of HT_.out (by kernel_rfl)) ?_
   go_wp2
   go_roundg kq1
   case measure => omega
   case rel => exact ⟨i + 1, congrArg _ hw.out.1, ⟨by have := HI.out; omega, by have := HI.out; omega⟩, ⟨by rw [hw.out.2]; exact HV.out.step HX.out HB9.out HV9.out (blk_lt HG.out) HB.out.size⟩, ⟨bkf BKb9.out (ne_types BKb9.out HG9.out (by decide)) _⟩, ⟨bkf BKr9.out (ne_types BKr9.out HG9.out (by decide)) _⟩, ⟨bws (pwt HB.out HB9.out) HGW.out⟩⟩
def turnedF (a0 a1 a2 : Int) (l : List (List Int)) (q : Nat) (fl : Bool) : Int × Int × Int × List (List Int) :=
 let s := turnN q (a0.toNat, a1.toNat, l)
 ((s.1 : Int), (s.2.1 : Int), a2, if fl then s.2.2.map (flipP s.1 s.2.1) else s.2.2)
def item_turned.f (a0_0 a0_1 a0_2 : Int) (l0_3 : List (List Int)) (a1 : Int) (a2 : Bool) : Option (Int × Int × Int × List (List Int)) :=
 if (1 ≤ a0_0 ∧ a0_0 ≤ 1000 ∧ 1 ≤ a0_1 ∧ a0_1 ≤ 1000 ∧ 0 < l0_3.length ∧ l0_3.length ≤ 1000 ∧ 0 ≤ a1 ∧ a1 ≤ 3) ∧ (l0_3.all fun p => decide (p.length = a0_0.toNat * a0_1.toNat)) = true then some (turnedF a0_0 a0_1 a0_2 l0_3 a1.toNat a2) else none
def item_turned.T14 : Bool × List (List Nat × List Nat) := (true, [([], []), ([0], [0]), ([], []), ([1, 2], [1, 2]), ([3], [3]), ([], []), ([], []), ([6], [6]), ([5, 7], [5, 7]), ([], []), ([8, 9], [8, 9]), ([], []), ([], []), ([12], [12]), ([13], [13]), ([], []), ([14, 15], [14, 15]), ([], []), ([17], [17]), ([16, 18], [16, 18]), ([], []), ([19, 20], [19, 20]), ([11, 21], [11, 21]), ([22], [22]), ([4, 10, 0, 1, 2, 3, 4, 5, 6, 7, 8, 9, 10, 11, 12, 13, 14, 15, 16, 17, 18, 19, 20, 21, 22, 23], [4, 10]), ([24, 23, 0, 1, 2, 3, 4, 5, 6, 7, 8, 9, 10, 11, 12, 13, 14, 15, 16, 17, 18, 19, 20, 21, 22, 23], [23, 24])])
def item_turned.B14 : List Nat := [0, 1, 0, 7, 15, 0, 0, 64, 224, 0, 992, 0, 0, 4096, 12288, 0, 61440, 0, 131072, 520192, 0, 2093056, 4192256, 8386560, 16777215, 33554431]
theorem item_turned.tab14 : rtab .any (opsOf Tryz.f49 14) = item_turned.T14 := by kernel_rfl
theorem item_turned.bits14 : waitsOk item_turned.T14.2 item_turned.B14 = true := by kernel_rfl
set_option maxHeartbeats 32000000 in
set_option maxRecDepth 100000 in
theorem item_turned.calls (a0_0 : Int) (a0_1 : Int) (a0_2 : Int) (A0_3 : Option Addr) (c0_3 : Nat) (l0_3 : List (List Int)) (a1 : Int) (a2 : Bool) (r1 : Int) (r2 : Int) (r3 : Int) (r4 : List (List Int)) (w : World) (hr0_3 : Kd.C (Kd.slice 3 (Kd.int .i64)) w A0_3 l0_3.length l0_3) (hc0_3 : l0_3.length ≤ c0_3) (h : item_turned.f a0_0 a0_1 a0_2 l0_3 a1 a2 = some (r1, r2, r3, r4)) :
  Calls Tryz.prog 49 #[.agg #[.int .i64 a0_0, .int .i64 a0_1, .int .i64 a0_2, .slice A0_3 l0_3.length c0_3], .int .i64 a1, .bool a2] w fun e w' => ∃ v3_ : Value, e = .returned (.agg #[.int .i64 r1, .int .i64 r2, .int .i64 r3, v3_]) ∧ Kd.S (Kd.slice 3 (Kd.int .i64)) 39 w' w.heap.size (fun _ => True) v3_ r4 ∧ Below w.heap.size w w' := by
 unfold item_turned.f at h
 split at h
 case isFalse => cases h
 case isTrue hk =>
 have HC := As0.mk hc0_3
 have HK := As0.mk hk
 have HR := As0.mk hr0_3
 have hall : ∀ p ∈ l0_3, p.length = a0_0.toNat * a0_1.toNat := fun p hp => by simpa using List.all_eq_true.1 hk.2 p hp
 have hP : a0_0.toNat * a0_1.toNat ≤ 1000 * 1000 := Nat.mul_le_mul (by omega) (by omega)
 have HCL : As0 (item_clone.f a0_0 a0_1 a0_2 l0_3 = some (a0_0, a0_1, a0_2, l0_3)) := ⟨if_pos ⟨by omega, List.all_eq_true.2 fun p hp => by have := hall p hp; simp; omega⟩⟩
 have HOK : As0 (okPic (a0_0.toNat, a0_1.toNat, l0_3)) := ⟨⟨by show 1 ≤ a0_0.toNat; omega, by show a0_0.toNat ≤ 1000; omega, by show 1 ≤ a0_1.toNat; omega, by show a0_1.toNat ≤ 1000; omega, by show l0_3.length ≤ 1000; omega, hall⟩⟩
 have HF := As0.mk (Option.some.inj h)
 unfold turnedF at HF
 obtain ⟨cw0, hcw0⟩ : ∃ c : Nat, c = a0_0.toNat := ⟨_, rfl⟩
 obtain ⟨ch0, hch0⟩ : ∃ c : Nat, c = a0_1.toNat := ⟨_, rfl⟩
 rw [← hcw0, ← hch0] at HOK
 have EW : As0 (a0_0 = (cw0 : Int) ∧ a0_1 = (ch0 : Int)) := ⟨by omega, by omega⟩
 rw [← hcw0, ← hch0] at HF
 obtain ⟨fin, hfin⟩ : ∃ s, s = turnN a1.toNat (cw0, ch0, l0_3) := ⟨_, rfl⟩
 rw [← hfin] at HF
 have HFIN := As0.mk hfin.symm
 clear hfin hcw0 hch0 hall hP hk hr0_3 h hc0_3
 have hu24 := Tryz.underlying24
 have hu39 := Tryz.underlying39
 have hu22 := Tryz.underlying22
 go_enter Tryz.func49, Tryz.ntmps49
 go_wp2_with (first | ((with_reducible refine gdt (N := 3) rfl ?_); refine bxe ?hg (N := 3) ?hd (cs := #[.int .i64 a0_0, .int .i64 a0_1, .int .i64 a0_2, .slice A0_3 l0_3.length c0_3]) (t := 24) ?hr ?_; (case hd => rfl); (case hg => rfl); (case hr => first | (go_simp; done) | (go_simp; rfl)); intro g3 hgg3 w2 hboxg3 hbg3; have BKg3 := As0.mk hboxg3; have HB2 := As0.mk hbg3; have k0 : w2.cell? ⟨g3, 0, none⟩ = some (.int .i64 a0_0) := (bkc BKg3.out 0).trans rfl; have k1 : w2.cell? ⟨g3, 1, none⟩ = some (.int .i64 a0_1) := (bkc BKg3.out 1).trans rfl; have k2 : w2.cell? ⟨g3, 2, none⟩ = some (.int .i64 a0_2) := (bkc BKg3.out 2).trans rfl; have k3 : w2.cell? ⟨g3, 3, none⟩ = some (.slice A0_3 l0_3.length c0_3) := (bkc BKg3.out 3).trans rfl; clear hboxg3 hbg3 hgg3) | ((with_reducible refine gdt (N := 6) rfl ?_); refine bxe ?hg (N := 6) ?hd (cs := #[.int .i64 0, .int .i64 0, .int .i64 0, .slice none 0 0]) (t := 24) ?hr ?_; (case hd => rfl); (case hg => rfl); (case hr => first | (go_simp; done) | (go_simp; rfl)); intro g6 hgg6 w3 hboxg6 hbg6; have BKg6 := As0.mk hboxg6; have GE6 : As0 (w.heap.size ≤ g6) := ⟨by have := HB2.out.size; omega⟩; have HB3 := As0.mk (pwt HB2.out hbg6); replace BKg3 := As0.mk (bkb BKg3.out hbg6); clear k0 k1 k2 k3; have k0 : w3.cell? ⟨g3, 0, none⟩ = some (.int .i64 a0_0) := (bkc BKg3.out 0).trans rfl; have k1 : w3.cell? ⟨g3, 1, none⟩ = some (.int .i64 a0_1) := (bkc BKg3.out 1).trans rfl; have k2 : w3.cell? ⟨g3, 2, none⟩ = some (.int .i64 a0_2) := (bkc BKg3.out 2).trans rfl; have k3 : w3.cell? ⟨g3, 3, none⟩ = some (.slice A0_3 l0_3.length c0_3) := (bkc BKg3.out 3).trans rfl; clear hboxg6 hbg6 hgg6) | (go_at_call 67; (with_reducible refine (item_clone.calls a0_0 a0_1 a0_2 A0_3 c0_3 l0_3 a0_0 a0_1 a0_2 l0_3 _ (Kd.C_below HR.out HB3.out) HC.out HCL.out).mono ?_); rintro e w4 ⟨v4, rfl, hs4, hb4⟩; obtain ⟨gO, cO, rfl, _, _, _⟩ := Kd.S_form hs4 HK.out.1.2.2.2.2.1; have HS4 := As0.mk (Kd.S_lower hs4 HB3.out.size); replace BKg6 := As0.mk (bkb BKg6.out hb4); have HB4 := As0.mk (pwt HB3.out hb4); clear hs4 hb4) | ((with_reducible refine gdt (N := 7) rfl ?_); refine bxe ?hg (N := 7) ?hd (cs := #[.int .i64 0, .int .i64 0, .int .i64 0, .slice none 0 0]) (t := 24) ?hr ?_; (case hd => rfl); (case hg => rfl); (case hr => first | (go_simp; done) | (go_simp; rfl)); intro g7 hgg7 w5 hboxg7 hbg7; have BKg7 := As0.mk hboxg7; have GE7 : As0 (w.heap.size ≤ g7) := ⟨by have := HB4.out.size; omega⟩; have NE67 : As0 (g6 ≠ g7) := ⟨by have := blk_lt BKg6.out; omega⟩; replace BKg6 := As0.mk (bkb BKg6.out hbg7); have HB5 := As0.mk (pwt HB4.out hbg7); have HS5 := As0.mk (Kd.S_below HS4.out hbg7); have z0 : w5.cell? ⟨g7, 0, none⟩ = some (.int .i64 0) := (bkc BKg7.out 0).trans rfl; have z1 : w5.cell? ⟨g7, 1, none⟩ = some (.int .i64 0) := (bkc BKg7.out 1).trans rfl; have z2 : w5.cell? ⟨g7, 2, none⟩ = some (.int .i64 0) := (bkc BKg7.out 2).trans rfl; have z3 : w5.cell? ⟨g7, 3, none⟩ = some (.slice none 0 0) := (bkc BKg7.out 3).trans rfl; have fz0 := bkz BKg7.out 0; have fz1 := bkz BKg7.out 1; have fz2 := bkz BKg7.out 2; have fz3 := bkz BKg7.out 3; clear hboxg7 hbg7 hgg7))
 clear z0 z1 z2 z3 fz0 fz1 fz2 fz3 k0 k1 k2 k3
 go_loopg [19] a1.toNat (fun kq v19 w' => ∃ (i : Int) (cw ch : Nat) (ps : List (List Int)) (gO cO : Nat), v19 = .int .i64 i ∧ As0 (0 ≤ i ∧ i + kq = a1) ∧ As0 (okPic (cw, ch, ps) ∧ ps.length = l0_3.length ∧ turnN kq (cw, ch, ps) = fin) ∧ As0 (Kd.S (Kd.slice 3 (Kd.int .i64)) 39 w' w.heap.size (fun _ => True) (.slice (some ⟨gO, 0, none⟩) l0_3.length cO) ps) ∧ As0 (w'.heap[g7]? = some (.cells #[.int .i64 (cw : Int), .int .i64 (ch : Int), .int .i64 a0_2, .slice (some ⟨gO, 0, none⟩) l0_3.length cO] 24 (0, 0))) ∧ As0 (w'.heap[g6]? = some (.cells #[.int .i64 0, .int .i64 0, .int .i64 0, .slice none 0 0] 24 (0, 0))) ∧ As0 (Below w.heap.size w w'))
 case atStart => exact ⟨0, cw0, ch0, l0_3, gO, cO, rfl, ⟨by omega, by have := HK.out; omega⟩, ⟨HOK.out, rfl, HFIN.out⟩, ⟨four_S HS5.out BKg7.out (by decide) _ _ _ _⟩, ⟨by rw [← EW.out.1, ← EW.out.2]; exact four_put BKg7.out _ _ _ _⟩, ⟨four_far BKg6.out NE67.out _ _ _ _⟩, ⟨four_below HB5.out GE7.out _ _ _ _⟩⟩
 case round =>
  clear BKg3 BKg6 BKg7 HS4 HS5 HB5 HB4 HB3 HB2 HOK HFIN EW
  obtain ⟨i, cw, ch, ps, gO, cO, rfl, HI, HP, HSO, BKg7, BKg6, HB⟩ := hrel
  have HPB : As0 (1 ≤ cw ∧ cw ≤ 1000 ∧ 1 ≤ ch ∧ ch ≤ 1000) := ⟨HP.out.1.1, HP.out.1.2.1, HP.out.1.2.2.1, HP.out.1.2.2.2.1⟩
  cases gk with
  | zero =>
   have hge : decide (i < a1) = false := by have := HI.out; simp; omega
   obtain rfl : (cw, ch, ps) = fin := HP.out.2.2
   have HFF := HF.out
   cases a2 with
   | false =>
    simp only [Bool.false_eq_true, if_false, Prod.mk.injEq] at HFF
    obtain ⟨h1, h2, h3, h4⟩ := HFF
    subst h1; subst h2; subst h3; subst h4
    have k0 : wr.cell? ⟨g7, 0, none⟩ = some (.int .i64 (cw : Int)) := (bkc BKg7.out 0).trans rfl
    have k1 : wr.cell? ⟨g7, 1, none⟩ = some (.int .i64 (ch : Int)) := (bkc BKg7.out 1).trans rfl
    have k2 : wr.cell? ⟨g7, 2, none⟩ = some (.int .i64 a0_2) := (bkc BKg7.out 2).trans rfl
    have k3 : wr.cell? ⟨g7, 3, none⟩ = some (.slice (some ⟨gO, 0, none⟩) l0_3.length cO) := (bkc BKg7.out 3).trans rfl
    have z0 : wr.cell? ⟨g6, 0, none⟩ = some (.int .i64 0) := (bkc BKg6.out 0).trans rfl
    have z1 : wr.cell? ⟨g6, 1, none⟩ = some (.int .i64 0) := (bkc BKg6.out 1).trans rfl
    have z2 : wr.cell? ⟨g6, 2, none⟩ = some (.int .i64 0) := (bkc BKg6.out 2).trans rfl
    have z3 : wr.cell? ⟨g6, 3, none⟩ = some (.slice none 0 0) := (bkc BKg6.out 3).trans rfl
    have f0 := bkz BKg6.out 0
    have f1 := bkz BKg6.out 1
    have f2 := bkz BKg6.out 2
    have f3 := bkz BKg6.out 3
    go_wp2
    refine bodyPost_ret (results_cell_row rfl _ _ g6 24 #[.int .i64 (cw : Int), .int .i64 (ch : Int), .int .i64 a0_2, .slice (some ⟨gO, 0, none⟩) l0_3.length cO] (0, 0) _ rfl (four_put BKg6.out _ _ _ _) Tryz.underlying24 rfl (by kernel_rfl)) rfl ?_
    exact ⟨_, rfl, four_S HSO.out BKg6.out (by decide) _ _ _ _, four_below HB.out GE6.out _ _ _ _⟩
   | true =>
    simp only [if_true, Prod.mk.injEq] at HFF
    obtain ⟨h1, h2, h3, h4⟩ := HFF
    subst h1; subst h2; subst h3; subst h4
    have k0 : wr.cell? ⟨g7, 0, none⟩ = some (.int .i64 (cw : Int)) := (bkc BKg7.out 0).trans rfl
    have k1 : wr.cell? ⟨g7, 1, none⟩ = some (.int .i64 (ch : Int)) := (bkc BKg7.out 1).trans rfl
    have k2 : wr.cell? ⟨g7, 2, none⟩ = some (.int .i64 a0_2) := (bkc BKg7.out 2).trans rfl
    have k3 : wr.cell? ⟨g7, 3, none⟩ = some (.slice (some ⟨gO, 0, none⟩) l0_3.length cO) := (bkc BKg7.out 3).trans rfl
    go_wp2
    clear k0 k1 k2 k3
    go_loopg [83] l0_3.length (fun kq v83 w' => ∃ (p : Int), v83 = .int .i64 p ∧ As0 (0 ≤ p ∧ p + kq = l0_3.length) ∧ As0 (Kd.S (Kd.slice 3 (Kd.int .i64)) 39 w' w.heap.size (fun _ => True) (.slice (some ⟨gO, 0, none⟩) l0_3.length cO) (fx cw ch ps p.toNat 0)) ∧ As0 (w'.heap[g7]? = some (.cells #[.int .i64 (cw : Int), .int .i64 (ch : Int), .int .i64 a0_2, .slice (some ⟨gO, 0, none⟩) l0_3.length cO] 24 (0, 0))) ∧ As0 (w'.heap[g6]? = some (.cells #[.int .i64 0, .int .i64 0, .int .i64 0, .slice none 0 0] 24 (0, 0))) ∧ As0 (Below w.heap.size w w'))
    case atStart => exact ⟨0, rfl, ⟨by omega, by omega⟩, ⟨by rw [show (0 : Int).toNat = 0 from rfl, fx_zero]; exact HSO.out⟩, BKg7, BKg6, HB⟩
    case round =>
     clear HSO BKg7 BKg6 HB hge
     obtain ⟨p, rfl, HPI, HSO, BKg7, BKg6, HB⟩ := hrel
     cases gk with
     | zero =>
      have hge : decide (p < (l0_3.length : Int)) = false := by have := HPI.out; simp; omega
      have hpn : p.toNat = ps.length := by have := HPI.out; have := HP.out.2.1; omega
      rw [hpn, fx_last] at HSO
      have k0 : wr.cell? ⟨g7, 0, none⟩ = some (.int .i64 (cw : Int)) := (bkc BKg7.out 0).trans rfl
      have k1 : wr.cell? ⟨g7, 1, none⟩ = some (.int .i64 (ch : Int)) := (bkc BKg7.out 1).trans rfl
      have k2 : wr.cell? ⟨g7, 2, none⟩ = some (.int .i64 a0_2) := (bkc BKg7.out 2).trans rfl
      have k3 : wr.cell? ⟨g7, 3, none⟩ = some (.slice (some ⟨gO, 0, none⟩) l0_3.length cO) := (bkc BKg7.out 3).trans rfl
      have z0 : wr.cell? ⟨g6, 0, none⟩ = some (.int .i64 0) := (bkc BKg6.out 0).trans rfl
      have z1 : wr.cell? ⟨g6, 1, none⟩ = some (.int .i64 0) := (bkc BKg6.out 1).trans rfl
      have z2 : wr.cell? ⟨g6, 2, none⟩ = some (.int .i64 0) := (bkc BKg6.out 2).trans rfl
      have z3 : wr.cell? ⟨g6, 3, none⟩ = some (.slice none 0 0) := (bkc BKg6.out 3).trans rfl
      have f0 := bkz BKg6.out 0
      have f1 := bkz BKg6.out 1
      have f2 := bkz BKg6.out 2
      have f3 := bkz BKg6.out 3
      go_wp2
      refine bodyPost_ret (results_cell_row rfl _ _ g6 24 #[.int .i64 (cw : Int), .int .i64 (ch : Int), .int .i64 a0_2, .slice (some ⟨gO, 0, none⟩) l0_3.length cO] (0, 0) _ rfl (four_put BKg6.out _ _ _ _) Tryz.underlying24 rfl (by kernel_rfl)) rfl ?_
      exact ⟨_, rfl, four_S HSO.out BKg6.out (by decide) _ _ _ _, four_below HB.out GE6.out _ _ _ _⟩
     | succ kq2 =>
      have p0 : 0 ≤ p := by have := HPI.out; omega
      have p1 : p < (l0_3.length : Int) := by have := HPI.out; omega
      have hpl : p.toNat < ps.length := by have := HP.out.2.1; omega
      have hlp : ps[p.toNat]? = some ps[p.toNat] := List.getElem?_eq_getElem hpl
      have hln : ps[p.toNat].length = cw * ch := HP.out.1.2.2.2.2.2 _ (List.getElem_mem hpl)
      have hNpos : As0 (0 < cw * ch ∧ cw * ch ≤ 1000000) := ⟨Nat.mul_pos (by have := HPB.out; omega) (by have := HPB.out; omega), by have := Nat.mul_le_mul HP.out.1.2.1 HP.out.1.2.2.2.1; exact this⟩
      generalize ps[p.toNat] = lp at hlp hln
      have HLP := As0.mk (And.intro hlp hln)
      obtain ⟨gp, cp, _, kp, _, _, _, _, _, _, _, _, _⟩ := S_row HSO.out p p0 p1 _ (fx_row cw ch ps p.toNat 0 lp hlp) (by rw [flipT_length]; have := hNpos.out; omega)
      rw [flipT_length, hln] at kp
      have KP := As0.mk kp
      clear hlp hln hpl
      have pd : decide (p < (l0_3.length : Int)) = true := decide_eq_true p1
      have pd0 : decide (0 ≤ p) = true := decide_eq_true p0
      replace p0 := eq_true p0
      replace p1 := eq_true p1
      have k0 : wr.cell? ⟨g7, 0, none⟩ = some (.int .i64 (cw : Int)) := (bkc BKg7.out 0).trans rfl
      have k1 : wr.cell? ⟨g7, 1, none⟩ = some (.int .i64 (ch : Int)) := (bkc BKg7.out 1).trans rfl
      have k2 : wr.cell? ⟨g7, 2, none⟩ = some (.int .i64 a0_2) := (bkc BKg7.out 2).trans rfl
      have k3 : wr.cell? ⟨g7, 3, none⟩ = some (.slice (some ⟨gO, 0, none⟩) l0_3.length cO) := (bkc BKg7.out 3).trans rfl
      go_wp2
      clear k0 k1 k2 k3 kp
      go_loopg [89] ch (fun kq v89 w' => ∃ (y : Int), v89 = .int .i64 y ∧ As0 (0 ≤ y ∧ y + kq = ch) ∧ As0 (Kd.S (Kd.slice 3 (Kd.int .i64)) 39 w' w.heap.size (fun _ => True) (.slice (some ⟨gO, 0, none⟩) l0_3.length cO) (fx cw ch ps p.toNat y.toNat)) ∧ As0 (w'.cell? ⟨gO, p.toNat, none⟩ = some (.slice (some ⟨gp, 0, none⟩) (cw * ch) cp)) ∧ As0 (w'.heap[g7]? = some (.cells #[.int .i64 (cw : Int), .int .i64 (ch : Int), .int .i64 a0_2, .slice (some ⟨gO, 0, none⟩) l0_3.length cO] 24 (0, 0))) ∧ As0 (w'.heap[g6]? = some (.cells #[.int .i64 0, .int .i64 0, .int .i64 0, .slice none 0 0] 24 (0, 0))) ∧ As0 (Below w.heap.size w w'))
      case atStart => exact ⟨0, rfl, ⟨by omega, by omega⟩, HSO, KP, BKg7, BKg6, HB⟩
      case round =>
       clear HSO BKg7 BKg6 HB KP
       obtain ⟨y, rfl, HY, HSO, KP, BKg7, BKg6, HB⟩ := hrel
       cases gk with
       | zero =>
        have hge : decide (y < (ch : Int)) = false := by have := HY.out; simp; omega
        have hy : y.toNat = ch := by have := HY.out; omega
        rw [hy, fx_next] at HSO
        have hw : As0 (wrap64 (p + 1) = p + 1 ∧ (p + 1).toNat = p.toNat + 1) := ⟨by have := HPI.out; have := HK.out; unfold wrap64; omega, by have := HPI.out; omega⟩
        go_wp2
        go_roundg kq2
        case measure => omega
        case rel => exact ⟨p + 1, congrArg _ hw.out.1, ⟨by have := HPI.out; omega, by have := HPI.out; omega⟩, ⟨by rw [hw.out.2]; exact HSO.out⟩, BKg7, BKg6, HB⟩
       | succ kq3 =>
        have hy1 : y < (ch : Int) := by have := HY.out; omega
        have yd : decide (y < (ch : Int)) = true := decide_eq_true hy1
        have hch : (ch : Int) ≤ 1000 := by have := HPB.out; omega
        have hcw : (cw : Int) ≤ 1000 := by have := HPB.out; omega
        have e1 : y * (cw : Int) = ((y.toNat * cw : Nat) : Int) := by rw [Int.natCast_mul]; congr 1; have := HY.out; omega
        have e2 : (y + 1) * (cw : Int) = ((y.toNat * cw + cw : Nat) : Int) := by rw [Int.add_mul, e1]; omega
        have b1 : y.toNat * cw + cw ≤ cw * ch := by rw [← Nat.succ_mul, Nat.mul_comm cw ch]; exact Nat.mul_le_mul_right _ (by have := HY.out; omega)
        have hNl := hNpos.out.2
        obtain ⟨gq, cq, okq, kq, hokq, hqN, _, hbq, hlq, ⟨cellsq, hcq⟩, hRq, hcap, hback⟩ := S_row HSO.out p (of_eq_true p0) (of_eq_true p1) _ (fx_row cw ch ps p.toNat y.toNat lp HLP.out.1) (by rw [flipT_length, HLP.out.2]; exact hNpos.out.1)
        rw [flipT_length, HLP.out.2] at kq hRq hback hcap
        have hsame := kq.symm.trans KP.out
        simp only [Option.some.injEq, Value.slice.injEq, Addr.mk.injEq, true_and, and_true] at hsame
        obtain ⟨hs1, hs2⟩ := hsame
        subst hs1; subst hs2
        have HRQ := As0.mk hRq
        have HCQ := As0.mk hcq
        have HBQ := As0.mk hbq
        have HBK := As0.mk (And.intro (fun w1 row' a b => hback w1 row' a b) hqN)
        obtain ⟨q1, hq1, v1⟩ : ∃ q, wrap64 (y * (cw : Int)) = q ∧ q = ((y.toNat * cw : Nat) : Int) := ⟨_, rfl, by rw [e1]; unfold wrap64; omega⟩
        obtain ⟨q2, hq2, v2⟩ : ∃ q, wrap64 (y + 1) = q ∧ q = y + 1 := ⟨_, rfl, by have := HY.out; unfold wrap64; omega⟩
        obtain ⟨q3, hq3, v3⟩ : ∃ q, wrap64 (q2 * (cw : Int)) = q ∧ q = ((y.toNat * cw + cw : Nat) : Int) := ⟨_, rfl, by rw [v2, e2]; unfold wrap64; omega⟩
        have hw : As0 (q2 = y + 1 ∧ (y + 1).toNat = y.toNat + 1 ∧ q1.toNat = y.toNat * cw ∧ q3.toNat = y.toNat * cw + cw ∧ (q3 - q1).toNat = cw) := ⟨v2, by have := HY.out; omega, by omega, by omega, by omega⟩
        have s1 : decide (0 ≤ q1) = true := decide_eq_true (by omega)
        have s2 : decide (q1 ≤ q3) = true := decide_eq_true (by omega)
        have s3 : decide (q3 ≤ (cq : Int)) = true := decide_eq_true (by omega)
        have r1_ : (0 ≤ q1) = True := eq_true (by omega)
        have r2_ : (q1 ≤ q3) = True := eq_true (by omega)
        have r3_ : (q3 ≤ (cq : Int)) = True := eq_true (by omega)
        have r4_ : (0 ≤ q3) = True := eq_true (by omega)
        have s4 : decide (0 ≤ q3) = true := decide_eq_true (by omega)
        have hc1 := HPB.out.1
        have HT : As0 (q1.toNat < cq) := ⟨by omega⟩
        have HMM := As0.mk b1
        clear hc1 e1 e2 b1 hNl hch hcw hy1 v1 v2 v3 hcap hback hokq hqN hbq hlq hRq hcq kq
        have k0 : wr.cell? ⟨g7, 0, none⟩ = some (.int .i64 (cw : Int)) := (bkc BKg7.out 0).trans rfl
        have k1 : wr.cell? ⟨g7, 1, none⟩ = some (.int .i64 (ch : Int)) := (bkc BKg7.out 1).trans rfl
        have k2 : wr.cell? ⟨g7, 2, none⟩ = some (.int .i64 a0_2) := (bkc BKg7.out 2).trans rfl
        have k3 : wr.cell? ⟨g7, 3, none⟩ = some (.slice (some ⟨gO, 0, none⟩) l0_3.length cO) := (bkc BKg7.out 3).trans rfl
        go_wp2_with (go_at_call 108; (with_reducible refine (Reverse_at _ w.heap.size okq gq (cw * ch) cq (flipT cw lp y.toNat) HRQ.out q1.toNat (q3.toNat - q1.toNat) (cq - q1.toNat) ?hm1 ?hm2).mono ?_); (case hm1 => have := hw.out; have := HMM.out; have := HLP.out.2; rw [flipT_length]; omega); (case hm2 => have := hNpos.out; have := HLP.out.2; rw [flipT_length]; omega); rintro e w9 ⟨rfl, hr9, hg9⟩; have HR9 := As0.mk hr9; have HG9 := As0.mk hg9; clear hr9 hg9)
        any_goals (exfalso; have := HT.out; omega)
        go_roundg kq3
        case measure => omega
        case rel => exact ⟨y + 1, by rw [hq2, hw.out.1], ⟨by have := HY.out; omega, by have := HY.out; omega⟩, ⟨by
         have h9 := HR9.out
         rw [show q3.toNat - q1.toNat = cw by have := hw.out; omega, hw.out.2.2.1] at h9
         have h10 := HBK.out.1 _ _ HG9.out h9
         rw [fx_set cw ch ps p.toNat y.toNat lp HLP.out.1] at h10
         rw [hw.out.2.1]
         exact h10⟩, ⟨HG9.out.cell KP.out (fun he => HBK.out.2 (by injection he with he; exact he.symm))⟩, ⟨blk_grown BKg7.out HG9.out (fun he => ne_types BKg7.out HCQ.out (by decide) (by injection he))⟩, ⟨blk_grown BKg6.out HG9.out (fun he => ne_types BKg6.out HCQ.out (by decide) (by injection he))⟩, ⟨HB.out.grown HG9.out HB.out.size (fun k hk => by injection hk with hk; subst hk; exact HBQ.out)⟩⟩
  | succ kq1 =>
   have hlt : decide (i < a1) = true := by have := HI.out; simp; omega
   have HBL := As0.mk (blank_is (ch : Int) (cw : Int) a0_2 (by have := HPB.out; omega) (by have := HPB.out; omega) l0_3.length (by have := HK.out; omega))
   have k0 : wr.cell? ⟨g7, 0, none⟩ = some (.int .i64 (cw : Int)) := (bkc BKg7.out 0).trans rfl
   have k1 : wr.cell? ⟨g7, 1, none⟩ = some (.int .i64 (ch : Int)) := (bkc BKg7.out 1).trans rfl
   have k2 : wr.cell? ⟨g7, 2, none⟩ = some (.int .i64 a0_2) := (bkc BKg7.out 2).trans rfl
   have k3 : wr.cell? ⟨g7, 3, none⟩ = some (.slice (some ⟨gO, 0, none⟩) l0_3.length cO) := (bkc BKg7.out 3).trans rfl
   go_wp2_with (first | (go_at_call 107; (with_reducible refine (item_blank.calls (l0_3.length + 1) (ch : Int) (cw : Int) a0_2 (l0_3.length : Int) _ _ _ _ _ HBL.out).mono ?_); rintro e w7 ⟨v7, rfl, hs7, hb7⟩; obtain ⟨gN, cN, rfl, _, _, _⟩ := Kd.S_form hs7 (by rw [List.length_replicate]; exact HK.out.1.2.2.2.2.1); rw [List.length_replicate]; have HSN := As0.mk hs7; rw [List.length_replicate] at HSN; replace HSO := As0.mk (Kd.S_old HSO.out hb7); replace BKg7 := As0.mk (bkb BKg7.out hb7); replace BKg6 := As0.mk (bkb BKg6.out hb7); have HB7 := As0.mk (pwt HB.out hb7); have HNB := As0.mk hb7.size; clear hs7 hb7) | ((with_reducible refine gdt (N := 8) rfl ?_); refine bxe ?hg (N := 8) ?hd (cs := #[.int .i64 0, .int .i64 0, .int .i64 0, .slice none 0 0]) (t := 24) ?hr ?_; (case hd => rfl); (case hg => rfl); (case hr => first | (go_simp; done) | (go_simp; rfl)); intro g8 hgg8 w8 hboxg8 hbg8; have BKg8 := As0.mk hboxg8; have GE8 : As0 (w.heap.size ≤ g8) := ⟨by have := HB7.out.size; omega⟩; have NE : As0 (g6 ≠ g8 ∧ g7 ≠ g8) := ⟨by have := blk_lt BKg6.out; omega, by have := blk_lt BKg7.out; omega⟩; replace BKg6 := As0.mk (bkb BKg6.out hbg8); replace BKg7 := As0.mk (bkb BKg7.out hbg8); have HB8 := As0.mk (pwt HB7.out hbg8); replace HSO := As0.mk (Kd.S_below HSO.out hbg8); replace HSN := As0.mk (Kd.S_below HSN.out hbg8); replace HNB := As0.mk (Nat.le_trans HNB.out hbg8.size); have z0 : w8.cell? ⟨g8, 0, none⟩ = some (.int .i64 0) := (bkc BKg8.out 0).trans rfl; have z1 : w8.cell? ⟨g8, 1, none⟩ = some (.int .i64 0) := (bkc BKg8.out 1).trans rfl; have z2 : w8.cell? ⟨g8, 2, none⟩ = some (.int .i64 0) := (bkc BKg8.out 2).trans rfl; have z3 : w8.cell? ⟨g8, 3, none⟩ = some (.slice none 0 0) := (bkc BKg8.out 3).trans rfl; have fz0 := bkz BKg8.out 0; have fz1 := bkz BKg8.out 1; have fz2 := bkz BKg8.out 2; have fz3 := bkz BKg8.out 3; have m7 : ∀ v0 v1 v2 v3 : Value, ((((w8.setCell ⟨g8, 0, none⟩ v0).setCell ⟨g8, 1, none⟩ v1).setCell ⟨g8, 2, none⟩ v2).setCell ⟨g8, 3, none⟩ v3).cell? ⟨g7, 3, none⟩ = some (.slice (some ⟨gO, 0, none⟩) l0_3.length cO) := fun v0 v1 v2 v3 => (bkc (four_far BKg7.out NE.out.2 v0 v1 v2 v3) 3).trans rfl; clear hboxg8 hbg8 hgg8))
   clear z0 z1 z2 z3 fz0 fz1 fz2 fz3 k0 k1 k2 k3 m7
   obtain ⟨NB, hNB⟩ : ∃ b, b = wr.heap.size := ⟨_, rfl⟩
   rw [← hNB] at HSO HSN HNB
   have HWN : As0 (w.heap.size ≤ NB) := ⟨by rw [hNB]; exact HB.out.size⟩
   have hbl : (List.replicate l0_3.length (List.replicate ((ch : Int) * (cw : Int)).toNat 0) : List (List Int)) = nx cw ch ps 0 0 := by
    rw [nx_zero, HP.out.2.1, show ((ch : Int) * (cw : Int)).toNat = cw * ch by rw [← Int.natCast_mul, Int.toNat_natCast, Nat.mul_comm]]
   rw [hbl] at HSN
   clear hbl hNB HB HBL
   have hNpos : As0 (0 < cw * ch ∧ cw * ch ≤ 1000000) := ⟨Nat.mul_pos (by have := HP.out.1.1; exact this) (by have := HP.out.1.2.2.1; exact this), by have := Nat.mul_le_mul HP.out.1.2.1 HP.out.1.2.2.2.1; exact this⟩
   go_loopg [34] l0_3.length (fun kq v34 w' => ∃ (p : Int), v34 = .int .i64 p ∧ As0 (0 ≤ p ∧ p + kq = l0_3.length) ∧ As0 (Kd.S (Kd.slice 3 (Kd.int .i64)) 39 w' w.heap.size (fun k => True ∧ k < NB) (.slice (some ⟨gO, 0, none⟩) l0_3.length cO) ps) ∧ As0 (Kd.S (Kd.slice 3 (Kd.int .i64)) 39 w' NB (fun _ => True) (.slice (some ⟨gN, 0, none⟩) l0_3.length cN) (nx cw ch ps p.toNat 0)) ∧ As0 (w'.heap[g7]? = some (.cells #[.int .i64 (cw : Int), .int .i64 (ch : Int), .int .i64 a0_2, .slice (some ⟨gO, 0, none⟩) l0_3.length cO] 24 (0, 0))) ∧ As0 (w'.heap[g8]? = some (.cells #[.int .i64 (ch : Int), .int .i64 (cw : Int), .int .i64 a0_2, .slice (some ⟨gN, 0, none⟩) l0_3.length cN] 24 (0, 0))) ∧ As0 (w'.heap[g6]? = some (.cells #[.int .i64 0, .int .i64 0, .int .i64 0, .slice none 0 0] 24 (0, 0))) ∧ As0 (Below w.heap.size w w') ∧ As0 (NB ≤ w'.heap.size))
   case atStart => exact ⟨0, rfl, ⟨by omega, by omega⟩, ⟨four_S HSO.out BKg8.out (by decide) _ _ _ _⟩, ⟨four_S HSN.out BKg8.out (by decide) _ _ _ _⟩, ⟨four_far BKg7.out NE.out.2 _ _ _ _⟩, ⟨four_put BKg8.out _ _ _ _⟩, ⟨four_far BKg6.out NE.out.1 _ _ _ _⟩, ⟨four_below HB8.out GE8.out _ _ _ _⟩, ⟨by simpa [World.setCell] using HNB.out⟩⟩
   case round =>
    clear BKg6 BKg7 BKg8 HSO HSN HNB HB7 HB8
    obtain ⟨p, rfl, HPI, HSO, HSN, BKg7, BKg8, BKg6, HB, HNB⟩ := hrel
    cases gk with
    | zero =>
     have hge : decide (p < (l0_3.length : Int)) = false := by have := HPI.out; simp; omega
     have hpn : p.toNat = ps.length := by have := HPI.out; have := HP.out.2.1; omega
     rw [hpn, nx_last] at HSN
     have k0 : wr.cell? ⟨g8, 0, none⟩ = some (.int .i64 (ch : Int)) := (bkc BKg8.out 0).trans rfl
     have k1 : wr.cell? ⟨g8, 1, none⟩ = some (.int .i64 (cw : Int)) := (bkc BKg8.out 1).trans rfl
     have k2 : wr.cell? ⟨g8, 2, none⟩ = some (.int .i64 a0_2) := (bkc BKg8.out 2).trans rfl
     have k3 : wr.cell? ⟨g8, 3, none⟩ = some (.slice (some ⟨gN, 0, none⟩) l0_3.length cN) := (bkc BKg8.out 3).trans rfl
     have z0 : wr.cell? ⟨g7, 0, none⟩ = some (.int .i64 (cw : Int)) := (bkc BKg7.out 0).trans rfl
     have z1 : wr.cell? ⟨g7, 1, none⟩ = some (.int .i64 (ch : Int)) := (bkc BKg7.out 1).trans rfl
     have z2 : wr.cell? ⟨g7, 2, none⟩ = some (.int .i64 a0_2) := (bkc BKg7.out 2).trans rfl
     have z3 : wr.cell? ⟨g7, 3, none⟩ = some (.slice (some ⟨gO, 0, none⟩) l0_3.length cO) := (bkc BKg7.out 3).trans rfl
     have f0 := bkz BKg7.out 0
     have f1 := bkz BKg7.out 1
     have f2 := bkz BKg7.out 2
     have f3 := bkz BKg7.out 3
     have hw : As0 (wrap64 (i + 1) = i + 1) := ⟨by have := HI.out; have := HK.out; unfold wrap64; omega⟩
     go_wp2
     go_roundg kq1
     case measure => omega
     case rel => exact ⟨i + 1, ch, cw, ps.map (rot1 cw ch), gN, cN, congrArg _ hw.out, ⟨by have := HI.out; omega, by have := HI.out; omega⟩, ⟨HP.out.1.turn, by rw [List.length_map]; exact HP.out.2.1, HP.out.2.2⟩, ⟨four_S (Kd.S_lower HSN.out HWN.out) BKg7.out (by decide) _ _ _ _⟩, ⟨four_put BKg7.out _ _ _ _⟩, ⟨four_far BKg6.out NE67.out _ _ _ _⟩, ⟨four_below HB.out GE7.out _ _ _ _⟩⟩
    | succ kq2 =>
     have p0 : 0 ≤ p := by have := HPI.out; omega
     have p1 : p < (l0_3.length : Int) := by have := HPI.out; omega
     have hpl : p.toNat < ps.length := by have := HP.out.2.1; omega
     have hlp : ps[p.toNat]? = some ps[p.toNat] := List.getElem?_eq_getElem hpl
     have hln : ps[p.toNat].length = cw * ch := HP.out.1.2.2.2.2.2 _ (List.getElem_mem hpl)
     generalize ps[p.toNat] = lp at hlp hln
     have HLP := As0.mk (And.intro hlp hln)
     obtain ⟨gp, cp, okp, kp, hokp, _, _, _, _, _, hRp, _, _⟩ := S_row HSO.out p p0 p1 lp hlp (by have := hNpos.out; omega)
     have HRP := As0.mk (Kd.R_mono (ok' := fun k => True ∧ k < NB) hRp (fun k hk => (hokp k hk).1))
     clear hRp hokp hlp hln hpl
     have pd : decide (p < (l0_3.length : Int)) = true := decide_eq_true p1
     have pd0 : decide (0 ≤ p) = true := decide_eq_true p0
     replace p0 := eq_true p0
     replace p1 := eq_true p1
     have k81 : wr.cell? ⟨g8, 1, none⟩ = some (.int .i64 (cw : Int)) := (bkc BKg8.out 1).trans rfl
     go_wp2
     clear k81 kp
     go_loopg [41] cw (fun kq v41 w' => ∃ (y : Int), v41 = .int .i64 y ∧ As0 (0 ≤ y ∧ y + kq = cw) ∧ As0 (Kd.S (Kd.slice 3 (Kd.int .i64)) 39 w' w.heap.size (fun k => True ∧ k < NB) (.slice (some ⟨gO, 0, none⟩) l0_3.length cO) ps) ∧ As0 ((Kd.int .i64).R 3 w' w.heap.size (fun k => True ∧ k < NB) (.slice (some ⟨gp, 0, none⟩) lp.length cp) lp) ∧ As0 (Kd.S (Kd.slice 3 (Kd.int .i64)) 39 w' NB (fun _ => True) (.slice (some ⟨gN, 0, none⟩) l0_3.length cN) (nx cw ch ps p.toNat (y.toNat * ch))) ∧ As0 (w'.heap[g7]? = some (.cells #[.int .i64 (cw : Int), .int .i64 (ch : Int), .int .i64 a0_2, .slice (some ⟨gO, 0, none⟩) l0_3.length cO] 24 (0, 0))) ∧ As0 (w'.heap[g8]? = some (.cells #[.int .i64 (ch : Int), .int .i64 (cw : Int), .int .i64 a0_2, .slice (some ⟨gN, 0, none⟩) l0_3.length cN] 24 (0, 0))) ∧ As0 (w'.heap[g6]? = some (.cells #[.int .i64 0, .int .i64 0, .int .i64 0, .slice none 0 0] 24 (0, 0))) ∧ As0 (Below w.heap.size w w') ∧ As0 (NB ≤ w'.heap.size))
     case atStart => exact ⟨0, rfl, ⟨by omega, by omega⟩, HSO, HRP, ⟨by simpa using HSN.out⟩, BKg7, BKg8, BKg6, HB, HNB⟩
     case round =>
      clear BKg6 BKg7 BKg8 HSO HSN HNB HB HRP
      obtain ⟨y, rfl, HY, HSO, HRP, HSN, BKg7, BKg8, BKg6, HB, HNB⟩ := hrel
      cases gk with
      | zero =>
       have hge : decide (y < (cw : Int)) = false := by have := HY.out; simp; omega
       have hy : y.toNat = cw := by have := HY.out; omega
       rw [hy, nx_next] at HSN
       have hw : As0 (wrap64 (p + 1) = p + 1 ∧ (p + 1).toNat = p.toNat + 1) := ⟨by have := HPI.out; have := HK.out; unfold wrap64; omega, by have := HPI.out; omega⟩
       go_wp2
       go_roundg kq2
       case measure => omega
       case rel => exact ⟨p + 1, congrArg _ hw.out.1, ⟨by have := HPI.out; omega, by have := HPI.out; omega⟩, HSO, ⟨by rw [hw.out.2]; exact HSN.out⟩, BKg7, BKg8, BKg6, HB, HNB⟩
      | succ kq3 =>
       have yd : decide (y < (cw : Int)) = true := by have := HY.out; simp; omega
       have k80 : wr.cell? ⟨g8, 0, none⟩ = some (.int .i64 (ch : Int)) := (bkc BKg8.out 0).trans rfl
       go_wp2
       clear k80
       go_loopg [46] ch (fun kq v46 w' => ∃ (x : Int), v46 = .int .i64 x ∧ As0 (0 ≤ x ∧ x + kq = ch) ∧ As0 (Kd.S (Kd.slice 3 (Kd.int .i64)) 39 w' w.heap.size (fun k => True ∧ k < NB) (.slice (some ⟨gO, 0, none⟩) l0_3.length cO) ps) ∧ As0 ((Kd.int .i64).R 3 w' w.heap.size (fun k => True ∧ k < NB) (.slice (some ⟨gp, 0, none⟩) lp.length cp) lp) ∧ As0 (Kd.S (Kd.slice 3 (Kd.int .i64)) 39 w' NB (fun _ => True) (.slice (some ⟨gN, 0, none⟩) l0_3.length cN) (nx cw ch ps p.toNat (y.toNat * ch + x.toNat))) ∧ As0 (w'.heap[g7]? = some (.cells #[.int .i64 (cw : Int), .int .i64 (ch : Int), .int .i64 a0_2, .slice (some ⟨gO, 0, none⟩) l0_3.length cO] 24 (0, 0))) ∧ As0 (w'.heap[g8]? = some (.cells #[.int .i64 (ch : Int), .int .i64 (cw : Int), .int .i64 a0_2, .slice (some ⟨gN, 0, none⟩) l0_3.length cN] 24 (0, 0))) ∧ As0 (w'.heap[g6]? = some (.cells #[.int .i64 0, .int .i64 0, .int .i64 0, .slice none 0 0] 24 (0, 0))) ∧ As0 (Below w.heap.size w w') ∧ As0 (NB ≤ w'.heap.size))
       case atStart => exact ⟨0, rfl, ⟨by omega, by omega⟩, HSO, HRP, ⟨by simpa using HSN.out⟩, BKg7, BKg8, BKg6, HB, HNB⟩
       case round =>
        clear BKg6 BKg7 BKg8 HSO HSN HNB HB HRP
        obtain ⟨x, rfl, HX, HSO, HRP, HSN, BKg7, BKg8, BKg6, HB, HNB⟩ := hrel
        cases gk with
        | zero =>
         have hge : decide (x < (ch : Int)) = false := by have := HX.out; simp; omega
         have hx : x.toNat = ch := by have := HX.out; omega
         rw [hx, show y.toNat * ch + ch = (y.toNat + 1) * ch by rw [Nat.add_mul, Nat.one_mul]] at HSN
         have hw : As0 (wrap64 (y + 1) = y + 1 ∧ (y + 1).toNat = y.toNat + 1) := ⟨by have := HY.out; have := HPB.out; unfold wrap64; omega, by have := HY.out; omega⟩
         go_wp2
         go_roundg kq3
         case measure => omega
         case rel => exact ⟨y + 1, congrArg _ hw.out.1, ⟨by have := HY.out; omega, by have := HY.out; omega⟩, HSO, HRP, ⟨by rw [hw.out.2]; exact HSN.out⟩, BKg7, BKg8, BKg6, HB, HNB⟩
        | succ kq4 =>
           have hx1 : x < (ch : Int) := by have := HX.out; omega
           have hy1 : y < (cw : Int) := by have := HY.out; omega
           have xd : decide (x < (ch : Int)) = true := decide_eq_true hx1
           have hch : (ch : Int) ≤ 1000 := by have := HPB.out; omega
           have hcw : (cw : Int) ≤ 1000 := by have := HPB.out; omega
           have e1 : y * (ch : Int) = ((y.toNat * ch : Nat) : Int) := by rw [Int.natCast_mul]; congr 1; have := HY.out; omega
           have b1 : y.toNat * ch + ch ≤ cw * ch := by rw [← Nat.succ_mul]; exact Nat.mul_le_mul_right _ (by have := HY.out; omega)
           have e2 : ((ch : Int) - 1 - x) * (cw : Int) = (((ch - 1 - x.toNat) * cw : Nat) : Int) := by rw [Int.natCast_mul]; congr 1; have := HX.out; omega
           have b2 : (ch - 1 - x.toNat) * cw + cw ≤ cw * ch := by rw [← Nat.succ_mul, Nat.mul_comm cw ch]; exact Nat.mul_le_mul_right _ (by have := HX.out; omega)
           have hNl := hNpos.out.2
           have ht : As0 (y.toNat * ch + x.toNat < cw * ch ∧ (y.toNat * ch + x.toNat) % ch = x.toNat ∧ (y.toNat * ch + x.toNat) / ch = y.toNat) := ⟨by have := HX.out; omega, by rw [Nat.mul_comm, Nat.mul_add_mod, Nat.mod_eq_of_lt (by have := HX.out; omega)], by rw [Nat.mul_comm, Nat.mul_add_div (by have := HX.out; omega), Nat.div_eq_of_lt (by have := HX.out; omega), Nat.add_zero]⟩
           obtain ⟨q1, hq1, v1⟩ : ∃ q, wrap64 (y * (ch : Int)) = q ∧ q = ((y.toNat * ch : Nat) : Int) := ⟨_, rfl, by rw [e1]; unfold wrap64; omega⟩
           obtain ⟨q2, hq2, v2⟩ : ∃ q, wrap64 (q1 + x) = q ∧ q = ((y.toNat * ch + x.toNat : Nat) : Int) := ⟨_, rfl, by rw [v1]; have := HX.out; unfold wrap64; omega⟩
           obtain ⟨q3, hq3, v3⟩ : ∃ q, wrap64 ((ch : Int) - 1) = q ∧ q = (ch : Int) - 1 := ⟨_, rfl, by unfold wrap64; omega⟩
           obtain ⟨q4, hq4, v4⟩ : ∃ q, wrap64 (q3 - x) = q ∧ q = (ch : Int) - 1 - x := ⟨_, rfl, by rw [v3]; have := HX.out; unfold wrap64; omega⟩
           obtain ⟨q5, hq5, v5⟩ : ∃ q, wrap64 (q4 * (cw : Int)) = q ∧ q = (((ch - 1 - x.toNat) * cw : Nat) : Int) := ⟨_, rfl, by rw [v4, e2]; unfold wrap64; omega⟩
           obtain ⟨q6, hq6, v6⟩ : ∃ q, wrap64 (q5 + y) = q ∧ q = (((ch - 1 - x.toNat) * cw + y.toNat : Nat) : Int) := ⟨_, rfl, by rw [v5]; have := HY.out; unfold wrap64; omega⟩
           have u0 : 0 ≤ q6 := by omega
           have u1 : q6 < (lp.length : Int) := by have := HLP.out.2; have := HY.out; omega
           have nrow := nx_row cw ch ps p.toNat (y.toNat * ch + x.toNat) lp HLP.out.1
           have nlen := nxr_length cw ch lp (y.toNat * ch + x.toNat) (Nat.le_of_lt ht.out.1)
           have nset := nx_set cw ch ps p.toNat (y.toNat * ch + x.toNat) lp HLP.out.1 ht.out.1 (rdOf 0 lp q6) (by rw [ht.out.2.1, ht.out.2.2]; show lp.getD q6.toNat 0 = _; rw [v6, Int.toNat_natCast])
           obtain ⟨gq, cq, okq, kq, hokq, hqN, _, hbq, hlq, ⟨cellsq, hcq⟩, hRq, _, hback⟩ := S_row (Kd.S_drew HSN.out) p (of_eq_true p0) (of_eq_true p1) _ nrow (by rw [nlen]; exact hNpos.out.1)
           obtain ⟨cx, fx_⟩ := Kd.R_celln 0 HRP.out q6 u0 u1
           have w0_ : 0 ≤ q2 := by omega
           have w1_ : q2 < ((nxr cw ch lp (y.toNat * ch + x.toNat)).length : Int) := by rw [nlen]; have := ht.out.1; omega
           obtain ⟨cn, fn⟩ := Kd.R_celln 0 hRq q2 w0_ w1_
           have hp3 := Kd.R_putg hRq q2 (rdOf 0 lp q6)
           have hS3 := hback _ _ hp3.2 hp3.1
           rw [show q2.toNat = y.toNat * ch + x.toNat by omega, nset] at hS3
           have HQT : As0 (q2.toNat = y.toNat * ch + x.toNat) := ⟨by omega⟩
           rw [← HQT.out] at hS3
           have HS3 := As0.mk hS3
           have HCQ := As0.mk hcq
           have HBQ := As0.mk (And.intro hbq (Nat.le_trans HWN.out hbq))
           have u0d : decide (0 ≤ q6) = true := decide_eq_true u0
           have u1d : decide (q6 < (lp.length : Int)) = true := decide_eq_true u1
           have w0d : decide (0 ≤ q2) = true := decide_eq_true w0_
           have w1d : decide (q2 < ((nxr cw ch lp (y.toNat * ch + x.toNat)).length : Int)) = true := decide_eq_true w1_
           clear hS3 hp3 hback hRq nset nrow nlen hokq hqN hbq hlq hcq v1 v2 v3 v4 v5 v6 e1 e2 b1 b2 hNl hch hcw hx1 hy1 fx_
           generalize rdOf 0 lp q6 = vx at *
           generalize (nxr cw ch lp (y.toNat * ch + x.toNat)).length = LN at *
           have hw : As0 (wrap64 (x + 1) = x + 1 ∧ (x + 1).toNat = x.toNat + 1) := ⟨by have := HX.out; have := HPB.out; unfold wrap64; omega, by have := HX.out; omega⟩
           replace u0 := eq_true u0
           replace u1 := eq_true u1
           replace w0_ := eq_true w0_
           replace w1_ := eq_true w1_
           have k83 : wr.cell? ⟨g8, 3, none⟩ = some (.slice (some ⟨gN, 0, none⟩) l0_3.length cN) := (bkc BKg8.out 3).trans rfl
           have k80 : wr.cell? ⟨g8, 0, none⟩ = some (.int .i64 (ch : Int)) := (bkc BKg8.out 0).trans rfl
           have k71 : wr.cell? ⟨g7, 1, none⟩ = some (.int .i64 (ch : Int)) := (bkc BKg7.out 1).trans rfl
           have k70 : wr.cell? ⟨g7, 0, none⟩ = some (.int .i64 (cw : Int)) := (bkc BKg7.out 0).trans rfl
           go_wp2
           refine start_ (n := 26) (S := fun w' => w'.cell? ⟨g8, 3, none⟩ = some (.slice (some ⟨gN, 0, none⟩) l0_3.length cN) ∧ w'.cell? ⟨gN, p.toNat, none⟩ = some (.slice (some ⟨gq, 0, none⟩) LN cq) ∧ w'.cell? ⟨g8, 0, none⟩ = some (.int .i64 (ch : Int)) ∧ w'.cell? ⟨g7, 1, none⟩ = some (.int .i64 (ch : Int)) ∧ w'.cell? ⟨g7, 0, none⟩ = some (.int .i64 (cw : Int)) ∧ w'.cell? ⟨gp, q6.toNat, none⟩ = some (.int .i64 vx)) (ds := [25]) #[false, false, false, false, false, false, false, false, false, false, false, false, false, false, false, false, false, false, false, false, false, false, false, false, false, false] (by kernel_rfl) rfl rfl ⟨k83, kq, k80, k71, k70, cx⟩ (fun hHeld => ?_); refine with_tabW item_turned.tab14 item_turned.bits14 (fun HT_ HW_ => ?_)
           replace HSO := As0.mk (Kd.S_drew HSO.out)
           replace HRP := As0.mk (Kd.R_drew HRP.out)
           replace BKg7 := As0.mk (bkd BKg7.out)
           replace BKg8 := As0.mk (bkd BKg8.out)
           replace BKg6 := As0.mk (bkd BKg6.out)
           replace HB := As0.mk (bwd HB.out)
           replace HNB : As0 (NB ≤ wr.drew.heap.size) := HNB
           clear HSN k83 k80 k71 k70
           replace cx : wr.drew.cell? ⟨gp, q6.toNat, none⟩ = some (.int .i64 vx) := cx
           generalize wr.drew = wd at *
           refine pure_ (i := 0) (N := some 49) (v := ?_) (a' := ?_) #[true, false, false, false, false, false, false, false, false, false, false, false, false, false, false, false, false, false, false, false, false, false, false, false, false, false] rfl rfl (any_of HT_.out (by kernel_rfl)) (fun _ _ _ h => h) (Or.inl ⟨by rfl, ?_⟩) ?_ ?_
           rotate_left
           ·intro w'
            go_simp
            with_reducible rfl
           rotate_left
           ·simp only [Act.put, List.setIfInBounds_toArray, List.set_cons_zero, List.set_cons_succ, i64_w, i32_w, hq1, hq2, hq3, hq4, hq5, hq6]
            rfl
           refine pure_ (i := 2) (N := some 51) (v := ?_) (a' := ?_) #[true, false, true, false, false, false, false, false, false, false, false, false, false, false, false, false, false, false, false, false, false, false, false, false, false, false] rfl rfl (any_of HT_.out (by kernel_rfl)) (fun _ _ _ h => h) (Or.inl ⟨by rfl, ?_⟩) ?_ ?_
           rotate_left
           ·intro w'
            go_simp
            with_reducible rfl
           rotate_left
           ·simp only [Act.put, List.setIfInBounds_toArray, List.set_cons_zero, List.set_cons_succ, i64_w, i32_w, hq1, hq2, hq3, hq4, hq5, hq6]
            rfl
           refine pure_ (i := 5) (N := some 54) (v := ?_) (a' := ?_) #[true, false, true, false, false, true, false, false, false, false, false, false, false, false, false, false, false, false, false, false, false, false, false, false, false, false] rfl rfl (any_of HT_.out (by kernel_rfl)) (fun _ _ _ h => h) (Or.inl ⟨by rfl, ?_⟩) ?_ ?_
           rotate_left
           ·intro w'
            go_simp
            with_reducible rfl
           rotate_left
           ·simp only [Act.put, List.setIfInBounds_toArray, List.set_cons_zero, List.set_cons_succ, i64_w, i32_w, hq1, hq2, hq3, hq4, hq5, hq6]
            rfl
           refine pure_ (i := 6) (N := some 55) (v := ?_) (a' := ?_) #[true, false, true, false, false, true, true, false, false, false, false, false, false, false, false, false, false, false, false, false, false, false, false, false, false, false] rfl rfl (any_of HT_.out (by kernel_rfl)) (fun _ _ _ h => h) (Or.inl ⟨by rfl, ?_⟩) ?_ ?_
           rotate_left
           ·intro w'
            go_simp
            with_reducible rfl
           rotate_left
           ·simp only [Act.put, List.setIfInBounds_toArray, List.set_cons_zero, List.set_cons_succ, i64_w, i32_w, hq1, hq2, hq3, hq4, hq5, hq6]
            rfl
           refine pure_ (i := 9) (N := some 58) (v := ?_) (a' := ?_) #[true, false, true, false, false, true, true, false, false, true, false, false, false, false, false, false, false, false, false, false, false, false, false, false, false, false] rfl rfl (any_of HT_.out (by kernel_rfl)) (fun _ _ _ h => h) (Or.inl ⟨by rfl, ?_⟩) ?_ ?_
           rotate_left
           ·intro w'
            go_simp
            with_reducible rfl
           rotate_left
           ·simp only [Act.put, List.setIfInBounds_toArray, List.set_cons_zero, List.set_cons_succ, i64_w, i32_w, hq1, hq2, hq3, hq4, hq5, hq6]
            rfl
           refine pure_ (i := 11) (N := some 60) (v := ?_) (a' := ?_) #[true, false, true, false, false, true, true, false, false, true, false, true, false, false, false, false, false, false, false, false, false, false, false, false, false, false] rfl rfl (any_of HT_.out (by kernel_rfl)) (fun _ _ _ h => h) (Or.inl ⟨by rfl, ?_⟩) ?_ ?_
           rotate_left
           ·intro w'
            go_simp
            with_reducible rfl
           rotate_left
           ·simp only [Act.put, List.setIfInBounds_toArray, List.set_cons_zero, List.set_cons_succ, i64_w, i32_w, hq1, hq2, hq3, hq4, hq5, hq6]
            rfl
           refine pure_ (i := 12) (N := some 61) (v := ?_) (a' := ?_) #[true, false, true, false, false, true, true, false, false, true, false, true, true, false, false, false, false, false, false, false, false, false, false, false, false, false] rfl rfl (any_of HT_.out (by kernel_rfl)) (fun _ _ _ h => h) (Or.inl ⟨by rfl, ?_⟩) ?_ ?_
           rotate_left
           ·intro w'
            go_simp
            with_reducible rfl
           rotate_left
           ·simp only [Act.put, List.setIfInBounds_toArray, List.set_cons_zero, List.set_cons_succ, i64_w, i32_w, hq1, hq2, hq3, hq4, hq5, hq6]
            rfl
           refine pure_ (i := 15) (N := some 64) (v := ?_) (a' := ?_) #[true, false, true, false, false, true, true, false, false, true, false, true, true, false, false, true, false, false, false, false, false, false, false, false, false, false] rfl rfl (any_of HT_.out (by kernel_rfl)) (fun _ _ _ h => h) (Or.inl ⟨by rfl, ?_⟩) ?_ ?_
           rotate_left
           ·intro w'
            go_simp
            with_reducible rfl
           rotate_left
           ·simp only [Act.put, List.setIfInBounds_toArray, List.set_cons_zero, List.set_cons_succ, i64_w, i32_w, hq1, hq2, hq3, hq4, hq5, hq6]
            rfl
           refine pure_ (i := 17) (N := some 66) (v := ?_) (a' := ?_) #[true, false, true, false, false, true, true, false, false, true, false, true, true, false, false, true, false, true, false, false, false, false, false, false, false, false] rfl rfl (any_of HT_.out (by kernel_rfl)) (fun _ _ _ h => h) (Or.inl ⟨by rfl, ?_⟩) ?_ ?_
           rotate_left
           ·intro w'
            go_simp
            with_reducible rfl
           rotate_left
           ·simp only [Act.put, List.setIfInBounds_toArray, List.set_cons_zero, List.set_cons_succ, i64_w, i32_w, hq1, hq2, hq3, hq4, hq5, hq6]
            rfl
           refine pure_ (i := 20) (N := some 69) (v := ?_) (a' := ?_) #[true, false, true, false, false, true, true, false, false, true, false, true, true, false, false, true, false, true, false, false, true, false, false, false, false, false] rfl rfl (any_of HT_.out (by kernel_rfl)) (fun _ _ _ h => h) (Or.inl ⟨by rfl, ?_⟩) ?_ ?_
           rotate_left
           ·intro w'
            go_simp
            with_reducible rfl
           rotate_left
           ·simp only [Act.put, List.setIfInBounds_toArray, List.set_cons_zero, List.set_cons_succ, i64_w, i32_w, hq1, hq2, hq3, hq4, hq5, hq6]
            rfl
           refine take_ (i := 1) (N := some 50) (v := ?_) (a' := ?_) #[true, true, true, false, false, true, true, false, false, true, false, true, true, false, false, true, false, true, false, false, true, false, false, false, false, false] rfl rfl (take_ofW HT_.out HW_.out (by kernel_rfl)) (fun _ _ _ h => h) (Or.inl ⟨by rfl, ?_⟩) hHeld ?_ ?_
           rotate_left
           ·rintro w' ⟨s0, s1, s2, s3, s4, s5⟩
            go_simp
            with_reducible rfl
           rotate_left
           ·simp only [Act.put, List.setIfInBounds_toArray, List.set_cons_zero, List.set_cons_succ, i64_w, i32_w, hq1, hq2, hq3, hq4, hq5, hq6]
            rfl
           refine pure_ (i := 3) (N := some 52) (v := ?_) (a' := ?_) #[true, true, true, true, false, true, true, false, false, true, false, true, true, false, false, true, false, true, false, false, true, false, false, false, false, false] rfl rfl (any_of HT_.out (by kernel_rfl)) (fun _ _ _ h => h) (Or.inl ⟨by rfl, ?_⟩) ?_ ?_
           rotate_left
           ·intro w'
            go_simp
            with_reducible rfl
           rotate_left
           ·simp only [Act.put, List.setIfInBounds_toArray, List.set_cons_zero, List.set_cons_succ, i64_w, i32_w, hq1, hq2, hq3, hq4, hq5, hq6]
            rfl
           refine take_ (i := 4) (N := some 53) (v := ?_) (a' := ?_) #[true, true, true, true, true, true, true, false, false, true, false, true, true, false, false, true, false, true, false, false, true, false, false, false, false, false] rfl rfl (take_ofW HT_.out HW_.out (by kernel_rfl)) (fun _ _ _ h => h) (Or.inl ⟨by rfl, ?_⟩) hHeld ?_ ?_
           rotate_left
           ·rintro w' ⟨s0, s1, s2, s3, s4, s5⟩
            go_simp
            with_reducible rfl
           rotate_left
           ·simp only [Act.put, List.setIfInBounds_toArray, List.set_cons_zero, List.set_cons_succ, i64_w, i32_w, hq1, hq2, hq3, hq4, hq5, hq6]
            rfl
           refine take_ (i := 7) (N := some 56) (v := ?_) (a' := ?_) #[true, true, true, true, true, true, true, true, false, true, false, true, true, false, false, true, false, true, false, false, true, false, false, false, false, false] rfl rfl (take_ofW HT_.out HW_.out (by kernel_rfl)) (fun _ _ _ h => h) (Or.inl ⟨by rfl, ?_⟩) hHeld ?_ ?_
           rotate_left
           ·rintro w' ⟨s0, s1, s2, s3, s4, s5⟩
            go_simp
            with_reducible rfl
           rotate_left
           ·simp only [Act.put, List.setIfInBounds_toArray, List.set_cons_zero, List.set_cons_succ, i64_w, i32_w, hq1, hq2, hq3, hq4, hq5, hq6]
            rfl
           refine pure_ (i := 8) (N := some 57) (v := ?_) (a' := ?_) #[true, true, true, true, true, true, true, true, true, true, false, true, true, false, false, true, false, true, false, false, true, false, false, false, false, false] rfl rfl (any_of HT_.out (by kernel_rfl)) (fun _ _ _ h => h) (Or.inl ⟨by rfl, ?_⟩) ?_ ?_
           rotate_left
           ·intro w'
            go_simp
            with_reducible rfl
           rotate_left
           ·simp only [Act.put, List.setIfInBounds_toArray, List.set_cons_zero, List.set_cons_succ, i64_w, i32_w, hq1, hq2, hq3, hq4, hq5, hq6]
            rfl
           refine pure_ (i := 10) (N := some 59) (v := ?_) (a' := ?_) #[true, true, true, true, true, true, true, true, true, true, true, true, true, false, false, true, false, true, false, false, true, false, false, false, false, false] rfl rfl (any_of HT_.out (by kernel_rfl)) (fun _ _ _ h => h) (Or.inl ⟨by rfl, ?_⟩) ?_ ?_
           rotate_left
           ·intro w'
            go_simp
            with_reducible rfl
           rotate_left
           ·simp only [Act.put, List.setIfInBounds_toArray, List.set_cons_zero, List.set_cons_succ, i64_w, i32_w, hq1, hq2, hq3, hq4, hq5, hq6]
            rfl
           refine take_ (i := 13) (N := some 62) (v := ?_) (a' := ?_) #[true, true, true, true, true, true, true, true, true, true, true, true, true, true, false, true, false, true, false, false, true, false, false, false, false, false] rfl rfl (take_ofW HT_.out HW_.out (by kernel_rfl)) (fun _ _ _ h => h) (Or.inl ⟨by rfl, ?_⟩) hHeld ?_ ?_
           rotate_left
           ·rintro w' ⟨s0, s1, s2, s3, s4, s5⟩
            go_simp
            with_reducible rfl
           rotate_left
           ·simp only [Act.put, List.setIfInBounds_toArray, List.set_cons_zero, List.set_cons_succ, i64_w, i32_w, hq1, hq2, hq3, hq4, hq5, hq6]
            rfl
           refine pure_ (i := 14) (N := some 63) (v := ?_) (a' := ?_) #[true, true, true, true, true, true, true, true, true, true, true, true, true, true, true, true, false, true, false, false, true, false, false, false, false, false] rfl rfl (any_of HT_.out (by kernel_rfl)) (fun _ _ _ h => h) (Or.inl ⟨by rfl, ?_⟩) ?_ ?_
           rotate_left
           ·intro w'
            go_simp
            with_reducible rfl
           rotate_left
           ·simp only [Act.put, List.setIfInBounds_toArray, List.set_cons_zero, List.set_cons_succ, i64_w, i32_w, hq1, hq2, hq3, hq4, hq5, hq6]
            rfl
           refine pure_ (i := 16) (N := some 65) (v := ?_) (a' := ?_) #[true, true, true, true, true, true, true, true, true, true, true, true, true, true, true, true, true, true, false, false, true, false, false, false, false, false] rfl rfl (any_of HT_.out (by kernel_rfl)) (fun _ _ _ h => h) (Or.inl ⟨by rfl, ?_⟩) ?_ ?_
           rotate_left
           ·intro w'
            go_simp
            with_reducible rfl
           rotate_left
           ·simp only [Act.put, List.setIfInBounds_toArray, List.set_cons_zero, List.set_cons_succ, i64_w, i32_w, hq1, hq2, hq3, hq4, hq5, hq6]
            rfl
           refine take_ (i := 18) (N := some 67) (v := ?_) (a' := ?_) #[true, true, true, true, true, true, true, true, true, true, true, true, true, true, true, true, true, true, true, false, true, false, false, false, false, false] rfl rfl (take_ofW HT_.out HW_.out (by kernel_rfl)) (fun _ _ _ h => h) (Or.inl ⟨by rfl, ?_⟩) hHeld ?_ ?_
           rotate_left
           ·rintro w' ⟨s0, s1, s2, s3, s4, s5⟩
            go_simp
            with_reducible rfl
           rotate_left
           ·simp only [Act.put, List.setIfInBounds_toArray, List.set_cons_zero, List.set_cons_succ, i64_w, i32_w, hq1, hq2, hq3, hq4, hq5, hq6]
            rfl
           refine pure_ (i := 19) (N := some 68) (v := ?_) (a' := ?_) #[true, true, true, true, true, true, true, true, true, true, true, true, true, true, true, true, true, true, true, true, true, false, false, false, false, false] rfl rfl (any_of HT_.out (by kernel_rfl)) (fun _ _ _ h => h) (Or.inl ⟨by rfl, ?_⟩) ?_ ?_
           rotate_left
           ·intro w'
            go_simp
            with_reducible rfl
           rotate_left
           ·simp only [Act.put, List.setIfInBounds_toArray, List.set_cons_zero, List.set_cons_succ, i64_w, i32_w, hq1, hq2, hq3, hq4, hq5, hq6]
            rfl
           refine pure_ (i := 21) (N := some 70) (v := ?_) (a' := ?_) #[true, true, true, true, true, true, true, true, true, true, true, true, true, true, true, true, true, true, true, true, true, true, false, false, false, false] rfl rfl (any_of HT_.out (by kernel_rfl)) (fun _ _ _ h => h) (Or.inl ⟨by rfl, ?_⟩) ?_ ?_
           rotate_left
           ·intro w'
            go_simp
            with_reducible rfl
           rotate_left
           ·simp only [Act.put, List.setIfInBounds_toArray, List.set_cons_zero, List.set_cons_succ, i64_w, i32_w, hq1, hq2, hq3, hq4, hq5, hq6]
            rfl
           refine pure_ (i := 22) (N := some 71) (v := ?_) (a' := ?_) #[true, true, true, true, true, true, true, true, true, true, true, true, true, true, true, true, true, true, true, true, true, true, true, false, false, false] rfl rfl (any_of HT_.out (by kernel_rfl)) (fun _ _ _ h => h) (Or.inl ⟨by rfl, ?_⟩) ?_ ?_
           rotate_left
           ·intro w'
            go_simp
            with_reducible rfl
           rotate_left
           ·simp only [Act.put, List.setIfInBounds_toArray, List.set_cons_zero, List.set_cons_succ, i64_w, i32_w, hq1, hq2, hq3, hq4, hq5, hq6]
            rfl
           refine take_ (i := 23) (N := some 72) (v := ?_) (a' := ?_) #[true, true, true, true, true, true, true, true, true, true, true, true, true, true, true, true, true, true, true, true, true, true, true, true, false, false] rfl rfl (take_ofW HT_.out HW_.out (by kernel_rfl)) (fun _ _ _ h => h) (Or.inl ⟨by rfl, ?_⟩) hHeld ?_ ?_
           rotate_left
           ·rintro w' ⟨s0, s1, s2, s3, s4, s5⟩
            go_simp
            with_reducible rfl
           rotate_left
           ·simp only [Act.put, List.setIfInBounds_toArray, List.set_cons_zero, List.set_cons_succ, i64_w, i32_w, hq1, hq2, hq3, hq4, hq5, hq6]
            rfl
           refine pure_ (i := 24) (N := some 73) (v := ?_) (a' := ?_) #[true, true, true, true, true, true, true, true, true, true, true, true, true, true, true, true, true, true, true, true, true, true, true, true, true, false] rfl rfl (any_of HT_.out (by kernel_rfl)) (fun _ _ _ h => h) (Or.inl ⟨by rfl, ?_⟩) ?_ ?_
           rotate_left
           ·intro w'
            go_simp
            with_reducible rfl
           rotate_left
           ·simp only [Act.put, List.setIfInBounds_toArray, List.set_cons_zero, List.set_cons_succ, i64_w, i32_w, hq1, hq2, hq3, hq4, hq5, hq6]
            rfl
           refine last_ (i := 25) (N := none) #[true, true, true, true, true, true, true, true, true, true, true, true, true, true, true, true, true, true, true, true, true, true, true, true, true, true] rfl rfl (one_of HT_.out (by kernel_rfl)) (by decide) (fun K hK => ?_)
           refine skip_ (w1 := ?_) (by rfl) rfl ?_ ?_
           rotate_left
           ·go_simp
            rfl
           refine hK.out _ _ ?_
           clear hK K
           refine done_ (done_of HT_.out (by kernel_rfl)) ?_
           go_wp2
           go_roundg kq4
           case measure => omega
           case rel => exact ⟨x + 1, congrArg _ hw.out.1, ⟨by have := HX.out; omega, by have := HX.out; omega⟩, ⟨Kd.S_far HSO.out (fun k hk he => by have he : k = gq := he; have := HBQ.out.1; have := hk.2; omega) _⟩, ⟨Kd.R_step HRP.out (fun k hk _ => Below.heap_setCell wd _ _ k (fun he => by have he : k = gq := he; have := HBQ.out.1; have := hk.2; omega))⟩, ⟨by rw [hw.out.2, ← Nat.add_assoc, ← HQT.out]; exact HS3.out⟩, ⟨bkf BKg7.out (ne_types BKg7.out HCQ.out (by decide)) _⟩, ⟨bkf BKg8.out (ne_types BKg8.out HCQ.out (by decide)) _⟩, ⟨bkf BKg6.out (ne_types BKg6.out HCQ.out (by decide)) _⟩, ⟨bws HB.out HBQ.out.2⟩, ⟨by simpa [World.setCell] using HNB.out⟩⟩
theorem copy_ints (l : List Int) (hl : l.length ≤ 10000000) : ∀ (n j : Nat), j + n = l.length → Ev fun k => r00_CopyInts.l0 k l (l.take j) j = some l := by
 intro n
 induction n with
 | zero =>
  intro j hj
  refine Ev.const (fun k => ?_)
  rw [r00_CopyInts.l0, if_neg (by omega), List.take_of_length_le (by omega)]
 | succ n ih =>
  intro j hj
  have hjl : j < l.length := by omega
  have hx : l[j]? = some l[j] := List.getElem?_eq_getElem hjl
  refine Ev.step (fun k => ?_) (ih (j + 1) (by omega))
  rw [r00_CopyInts.l0, if_pos (by omega), if_pos (by omega), if_pos (by rw [List.length_take]; omega), w64_succ j (by omega), rd_at l j _ hx, List.take_add_one, hx]
  rfl
theorem copy_row (l : List Int) (hl : l.length ≤ 10000000) : Ev fun k => r00_CopyInts.f k l = some l := by
 obtain ⟨K, hK⟩ := copy_ints l hl l.length 0 (by omega)
 refine ⟨K, fun k hk => ?_⟩
 show r00_CopyInts.f k l = some l
 unfold r00_CopyInts.f
 rw [if_pos (by omega)]
 exact hK k hk
theorem copy_rows (ps : List (List Int)) (hn : ps.length ≤ 1000) (hr : ∀ r ∈ ps, r.length ≤ 10000000) : ∀ (n j : Nat), j + n = ps.length → Ev fun k => r00_CopyRows.l0 k ps (ps.take j) j = some ps := by
 intro n
 induction n with
 | zero =>
  intro j hj
  refine Ev.const (fun k => ?_)
  rw [r00_CopyRows.l0, if_neg (by omega), List.take_of_length_le (by omega)]
 | succ n ih =>
  intro j hj
  have hjl : j < ps.length := by omega
  have hx : ps[j]? = some ps[j] := List.getElem?_eq_getElem hjl
  refine Ev.step (g := fun k => (r00_CopyInts.f k ps[j]).bind fun t => r00_CopyRows.l0 k ps (ps.take j ++ [t]) ((j + 1 : Nat) : Int)) (fun k => ?_) (Ev.bind (copy_row _ (hr _ (List.getElem_mem hjl))) ?_)
  ·rw [r00_CopyRows.l0, if_pos (by omega), if_pos (by omega), w64_succ j (by omega), rdL1_at ps j _ hx]
   congr 1
   funext t
   rw [if_pos (by rw [List.length_take]; omega)]
  ·have := ih (j + 1) (by omega)
   rw [List.take_add_one, hx] at this
   exact this
theorem copy_image (a b c : Int) (ps : List (List Int)) (hn : ps.length ≤ 1000) (hr : ∀ r ∈ ps, r.length ≤ 10000000) : Ev fun k => r00_CopyImage.f k a b c ps = some (a, b, c, ps) := by
 obtain ⟨K, hK⟩ := copy_rows ps hn hr ps.length 0 (by omega)
 refine ⟨K, fun k hk => ?_⟩
 show r00_CopyImage.f k a b c ps = some (a, b, c, ps)
 have h1 : r00_CopyRows.f k ps = some ps := by
  unfold r00_CopyRows.f
  rw [if_pos (by omega)]
  exact hK k hk
 unfold r00_CopyImage.f
 rw [h1]
 rfl
theorem okPic.len {s : Nat × Nat × List (List Int)} (h : okPic s) : ∀ r ∈ s.2.2, r.length ≤ 10000000 := fun r hr => by
 have h1 := h.2.2.2.2.2 r hr
 have h2 := Nat.mul_le_mul h.2.1 h.2.2.2.1
 omega
def r00_EqInts.l0 : Nat → List Int → List Int → Int → Option (Bool)
 | 0, _, _, _ => none
 | k + 1, x0, x1, x5 => if x5 < (x0.length : Int) then (if 0 ≤ x5 then (if x5 < (x1.length : Int) then (if (rd x0 x5) = (rd x1 x5) then (r00_EqInts.l0 k x0 x1 (wrap64 (x5 + 1))) else (some false)) else (none)) else (none)) else (some true)
def r00_EqInts.f (k : Nat) (l0 : List Int) (l1 : List Int) : Option (Bool) := if (l0.length : Int) = (l1.length : Int) then (r00_EqInts.l0 k l0 l1 0) else (some false)
set_option maxHeartbeats 8000000 in
set_option maxRecDepth 100000 in
theorem r00_EqInts.calls (k : Nat) (A0 : Option Addr) (c0 : Nat) (l0 : List Int) (A1 : Option Addr) (c1 : Nat) (l1 : List Int) (r : Bool) (w : World) (hr0 : Kd.C (Kd.int .i64) w A0 l0.length l0) (hc0 : l0.length ≤ c0) (hr1 : Kd.C (Kd.int .i64) w A1 l1.length l1) (hc1 : l1.length ≤ c1) (h : r00_EqInts.f k l0 l1 = some r) :
  Calls Tryz.prog 23 #[.slice A0 l0.length c0, .slice A1 l1.length c1] w fun e w' => e = .returned (.bool r) ∧ Drawn0 w w' := by
 have HR0 := As0.mk hr0
 have HC0 := As0.mk hc0
 clear hr0 hc0
 have HR1 := As0.mk hr1
 have HC1 := As0.mk hc1
 clear hr1 hc1
 have H : (if (l0.length : Int) = (l1.length : Int) then (r00_EqInts.l0 k l0 l1 0) else (some false)) = some r := h
 clear h
 by_cases c3 : (l0.length : Int) = (l1.length : Int)
 ·rw [if_pos c3] at H
  have c3b0 : ((l0.length : Int) == (l1.length : Int)) = true := beq_iff_eq.mpr c3
  have c3b1 : ((l0.length : Int) != (l1.length : Int)) = false := bne_eq_false_iff_eq.mpr c3
  have c3b2 : (l0.length == l1.length) = true := by first | simpa using c3 | (simp at c3 ⊢; omega)
  clear c3
  have H' := As0.mk H
  clear H
  go_enter Tryz.func23, Tryz.ntmps23
  go_wp2
  repeat (go_quiet (fail); try go_wp2)
  go_loopg [5] k (fun kq v5 w' => ∃ (x5_1 : Int), v5 = .int .i64 x5_1 ∧ As0 (r00_EqInts.l0 kq l0 l1 x5_1 = some r) ∧ As0 (kq ≤ k) ∧ Drawn0 w w')
  case atStart => exact ⟨(0), (by first | rfl | (simp; done) | (simp [*]; done)), H', ⟨Nat.le_refl _⟩, by repeat (first | exact Drawn0.refl _ | apply Drawn0.step)⟩
  case round =>
   clear H'
   try clear c1
   try clear c2
   try clear p2
   try clear c3
   try clear c3b0
   try clear c3b1
   try clear c3b2
   obtain ⟨x5_1, rfl, HA, HK1, ⟨m1, rfl⟩⟩ := hrel
   cases gk with
   | zero => exact absurd HA.out (by simp [r00_EqInts.l0])
   | succ k1 =>
    have H := HA.out
    clear HA
    simp only [r00_EqInts.l0] at H
    by_cases c4 : x5_1 < (l0.length : Int)
    ·rw [if_pos c4] at H
     have c4b0 : decide (x5_1 < (l0.length : Int)) = true := decide_eq_true c4
     clear c4
     by_cases c5 : 0 ≤ x5_1
     ·rw [if_pos c5] at H
      have c5b0 : decide (0 ≤ x5_1) = true := decide_eq_true c5
      clear c5
      by_cases c6 : x5_1 < (l1.length : Int)
      ·rw [if_pos c6] at H
       have c6b0 : decide (x5_1 < (l1.length : Int)) = true := decide_eq_true c6
       clear c6
       by_cases c7 : (rd l0 x5_1) = (rd l1 x5_1)
       ·rw [if_pos c7] at H
        have c7b0 : ((rd l0 x5_1) == (rd l1 x5_1)) = true := beq_iff_eq.mpr c7
        have c7b1 : ((rd l0 x5_1) != (rd l1 x5_1)) = false := bne_eq_false_iff_eq.mpr c7
        clear c7
        have H' := As0.mk H
        clear H
        have p195 : 0 ≤ (x5_1 : Int) := of_decide_eq_true (by first | (with_reducible assumption) | assumption)
        have q195 : x5_1 < (l0.length : Int) := of_decide_eq_true (by first | (with_reducible assumption) | assumption)
        obtain ⟨ad195, e195, hx195_0⟩ := Kd.at_int HR0.out x5_1 p195 q195
        cases e195
        replace p195 := eq_true p195
        replace q195 := eq_true q195
        have p196 : 0 ≤ (x5_1 : Int) := of_decide_eq_true (by first | (with_reducible assumption) | assumption)
        have q196 : x5_1 < (l1.length : Int) := of_decide_eq_true (by first | (with_reducible assumption) | assumption)
        obtain ⟨ad196, e196, hx196_0⟩ := Kd.at_int HR1.out x5_1 p196 q196
        cases e196
        replace p196 := eq_true p196
        replace q196 := eq_true q196
        go_wp2
        repeat (go_quiet (fail); try go_wp2)
        go_roundg k1
        case measure => have := HK1.out; omega
        case rel => exact ⟨(wrap64 (x5_1 + 1)), (by first | rfl | (simp; done) | (simp [*]; done)), H', ⟨by have := HK1.out; omega⟩, by repeat (first | exact Drawn0.refl _ | apply Drawn0.step)⟩
       ·rw [if_neg c7] at H
        have c7b0 : ((rd l0 x5_1) == (rd l1 x5_1)) = false := beq_eq_false_iff_ne.mpr c7
        have c7b1 : ((rd l0 x5_1) != (rd l1 x5_1)) = true := bne_iff_ne.mpr c7
        obtain rfl := Option.some.inj H
        have p195 : 0 ≤ (x5_1 : Int) := of_decide_eq_true (by first | (with_reducible assumption) | assumption)
        have q195 : x5_1 < (l0.length : Int) := of_decide_eq_true (by first | (with_reducible assumption) | assumption)
        obtain ⟨ad195, e195, hx195_0⟩ := Kd.at_int HR0.out x5_1 p195 q195
        cases e195
        replace p195 := eq_true p195
        replace q195 := eq_true q195
        have p196 : 0 ≤ (x5_1 : Int) := of_decide_eq_true (by first | (with_reducible assumption) | assumption)
        have q196 : x5_1 < (l1.length : Int) := of_decide_eq_true (by first | (with_reducible assumption) | assumption)
        obtain ⟨ad196, e196, hx196_0⟩ := Kd.at_int HR1.out x5_1 p196 q196
        cases e196
        replace p196 := eq_true p196
        replace q196 := eq_true q196
        go_wp2
        repeat (go_quiet (fail); try go_wp2)
        go_ret
        exact ⟨by first | rfl | (simp; done) | (simp [*]; done), by repeat (first | exact Drawn0.refl _ | apply Drawn0.step)⟩
      ·rw [if_neg c6] at H
       exact absurd H (by simp)
     ·rw [if_neg c5] at H
      exact absurd H (by simp)
    ·rw [if_neg c4] at H
     have c4b0 : decide (x5_1 < (l0.length : Int)) = false := decide_eq_false c4
     clear c4
     obtain rfl := Option.some.inj H
     go_wp2
     repeat (go_quiet (fail); try go_wp2)
     go_ret
     exact ⟨by first | rfl | (simp; done) | (simp [*]; done), by repeat (first | exact Drawn0.refl _ | apply Drawn0.step)⟩
 ·rw [if_neg c3] at H
  have c3b0 : ((l0.length : Int) == (l1.length : Int)) = false := beq_eq_false_iff_ne.mpr c3
  have c3b1 : ((l0.length : Int) != (l1.length : Int)) = true := bne_iff_ne.mpr c3
  have c3b2 : (l0.length == l1.length) = false := by first | simpa using c3 | (simp at c3 ⊢; omega)
  obtain rfl := Option.some.inj H
  go_enter Tryz.func23, Tryz.ntmps23
  go_wp2
  repeat (go_quiet (fail); try go_wp2)
  go_ret
  exact ⟨by first | rfl | (simp; done) | (simp [*]; done), by repeat (first | exact Drawn0.refl _ | apply Drawn0.step)⟩
def r00_EqRows.l0 : Nat → List (List Int) → List (List Int) → Int → Option (Bool)
 | 0, _, _, _ => none
 | k + 1, x0, x1, x5 => if x5 < (x0.length : Int) then (if 0 ≤ x5 then (if x5 < (x1.length : Int) then ((r00_EqInts.f k (rd_L1 x0 x5) (rd_L1 x1 x5)).bind fun t199 => (if t199 = true then (r00_EqRows.l0 k x0 x1 (wrap64 (x5 + 1))) else (some false))) else (none)) else (none)) else (some true)
def r00_EqRows.f (k : Nat) (l0 : List (List Int)) (l1 : List (List Int)) : Option (Bool) := if (l0.length : Int) = (l1.length : Int) then (r00_EqRows.l0 k l0 l1 0) else (some false)
set_option maxHeartbeats 8000000 in
set_option maxRecDepth 100000 in
theorem r00_EqRows.calls (k : Nat) (A0 : Option Addr) (c0 : Nat) (l0 : List (List Int)) (A1 : Option Addr) (c1 : Nat) (l1 : List (List Int)) (r : Bool) (w : World) (hr0 : Kd.C (Kd.slice 3 (Kd.int .i64)) w A0 l0.length l0) (hc0 : l0.length ≤ c0) (hr1 : Kd.C (Kd.slice 3 (Kd.int .i64)) w A1 l1.length l1) (hc1 : l1.length ≤ c1) (h : r00_EqRows.f k l0 l1 = some r) :
  Calls Tryz.prog 52 #[.slice A0 l0.length c0, .slice A1 l1.length c1] w fun e w' => e = .returned (.bool r) ∧ Drawn0 w w' := by
 have HR0 := As0.mk hr0
 have HC0 := As0.mk hc0
 clear hr0 hc0
 have HR1 := As0.mk hr1
 have HC1 := As0.mk hc1
 clear hr1 hc1
 have H : (if (l0.length : Int) = (l1.length : Int) then (r00_EqRows.l0 k l0 l1 0) else (some false)) = some r := h
 clear h
 by_cases c3 : (l0.length : Int) = (l1.length : Int)
 ·rw [if_pos c3] at H
  have c3b0 : ((l0.length : Int) == (l1.length : Int)) = true := beq_iff_eq.mpr c3
  have c3b1 : ((l0.length : Int) != (l1.length : Int)) = false := bne_eq_false_iff_eq.mpr c3
  have c3b2 : (l0.length == l1.length) = true := by first | simpa using c3 | (simp at c3 ⊢; omega)
  clear c3
  have H' := As0.mk H
  clear H
  go_enter Tryz.func52, Tryz.ntmps52
  go_wp2
  repeat (go_quiet (fail); try go_wp2)
  go_loopg [5] k (fun kq v5 w' => ∃ (x5_1 : Int), v5 = .int .i64 x5_1 ∧ As0 (r00_EqRows.l0 kq l0 l1 x5_1 = some r) ∧ As0 (kq ≤ k) ∧ Drawn0 w w')
  case atStart => exact ⟨(0), (by first | rfl | (simp; done) | (simp [*]; done)), H', ⟨Nat.le_refl _⟩, by repeat (first | exact Drawn0.refl _ | apply Drawn0.step)⟩
  case round =>
   clear H'
   try clear c1
   try clear p2
   try clear c3
   try clear c3b0
   try clear c3b1
   try clear c3b2
   obtain ⟨x5_1, rfl, HA, HK1, ⟨m1, rfl⟩⟩ := hrel
   cases gk with
   | zero => exact absurd HA.out (by simp [r00_EqRows.l0])
   | succ k1 =>
    have H := HA.out
    clear HA
    simp only [r00_EqRows.l0] at H
    by_cases c4 : x5_1 < (l0.length : Int)
    ·rw [if_pos c4] at H
     have c4b0 : decide (x5_1 < (l0.length : Int)) = true := decide_eq_true c4
     clear c4
     by_cases c5 : 0 ≤ x5_1
     ·rw [if_pos c5] at H
      have c5b0 : decide (0 ≤ x5_1) = true := decide_eq_true c5
      clear c5
      by_cases c6 : x5_1 < (l1.length : Int)
      ·rw [if_pos c6] at H
       have c6b0 : decide (x5_1 < (l1.length : Int)) = true := decide_eq_true c6
       clear c6
       replace H := Option.bind_eq_some_iff.mp H
       obtain ⟨t199, A70, H⟩ := H
       replace H : (if t199 = true then (r00_EqRows.l0 k1 l0 l1 (wrap64 (x5_1 + 1))) else (some false)) = some r := H
       have A7 := As0.mk A70
       clear A70
       by_cases c8 : t199 = true
       ·subst c8
        have H1 : (r00_EqRows.l0 k1 l0 l1 (wrap64 (x5_1 + 1))) = some r := by rw [if_pos rfl] at H; exact H
        clear H
        have H := H1
        clear H1
        have H' := As0.mk H
        clear H
        have p197 : 0 ≤ (x5_1 : Int) := of_decide_eq_true (by first | (with_reducible assumption) | assumption)
        have q197 : x5_1 < (l0.length : Int) := of_decide_eq_true (by first | (with_reducible assumption) | assumption)
        obtain ⟨ad197, A197_0, c197_0, e197, hx197_0, hl197_0, hi197_0⟩ := at_L1 HR0.out x5_1 p197 q197
        cases e197
        have HR197_0 := As0.mk hi197_0
        have HC197_0 := As0.mk hl197_0
        clear hi197_0 hl197_0
        replace p197 := eq_true p197
        replace q197 := eq_true q197
        have p198 : 0 ≤ (x5_1 : Int) := of_decide_eq_true (by first | (with_reducible assumption) | assumption)
        have q198 : x5_1 < (l1.length : Int) := of_decide_eq_true (by first | (with_reducible assumption) | assumption)
        obtain ⟨ad198, A198_0, c198_0, e198, hx198_0, hl198_0, hi198_0⟩ := at_L1 HR1.out x5_1 p198 q198
        cases e198
        have HR198_0 := As0.mk hi198_0
        have HC198_0 := As0.mk hl198_0
        clear hi198_0 hl198_0
        replace p198 := eq_true p198
        replace q198 := eq_true q198
        go_wp2_with (first | (go_at_call 23; (with_reducible refine (r00_EqInts.calls k1 _ _ (rd_L1 l0 x5_1) _ _ (rd_L1 l1 x5_1) true _ ?side1 ?side2 ?side3 ?side4 A7.out).mono ?_); (case side1 => repeat (first | exact HR197_0.out | (with_reducible refine Kd.C_alloc ?_ _) | (with_reducible refine Kd.C_drewN ?_ _) | (with_reducible refine Kd.C_drew ?_))); (case side2 => exact HC197_0.out); (case side3 => repeat (first | exact HR198_0.out | (with_reducible refine Kd.C_alloc ?_ _) | (with_reducible refine Kd.C_drewN ?_ _) | (with_reducible refine Kd.C_drew ?_))); (case side4 => exact HC198_0.out); rintro e w' ⟨rfl, ⟨nd, rfl⟩⟩; (try first | exact ⟨rfl, _, World.drewN_drewN _ _ _⟩ | exact ⟨rfl, _, Eq.trans (World.drewN_drewN _ _ _) (congrArg (World.drewN _) (Nat.add_assoc _ _ _))⟩)))
        repeat (go_quiet (first | (go_at_call 23; (with_reducible refine (r00_EqInts.calls k1 _ _ (rd_L1 l0 x5_1) _ _ (rd_L1 l1 x5_1) true _ ?side1 ?side2 ?side3 ?side4 A7.out).mono ?_); (case side1 => repeat (first | exact HR197_0.out | (with_reducible refine Kd.C_alloc ?_ _) | (with_reducible refine Kd.C_drewN ?_ _) | (with_reducible refine Kd.C_drew ?_))); (case side2 => exact HC197_0.out); (case side3 => repeat (first | exact HR198_0.out | (with_reducible refine Kd.C_alloc ?_ _) | (with_reducible refine Kd.C_drewN ?_ _) | (with_reducible refine Kd.C_drew ?_))); (case side4 => exact HC198_0.out); rintro e w' ⟨rfl, ⟨nd, rfl⟩⟩; (try first | exact ⟨rfl, _, World.drewN_drewN _ _ _⟩ | exact ⟨rfl, _, Eq.trans (World.drewN_drewN _ _ _) (congrArg (World.drewN _) (Nat.add_assoc _ _ _))⟩))); try go_wp2_with (first | (go_at_call 23; (with_reducible refine (r00_EqInts.calls k1 _ _ (rd_L1 l0 x5_1) _ _ (rd_L1 l1 x5_1) true _ ?side1 ?side2 ?side3 ?side4 A7.out).mono ?_); (case side1 => repeat (first | exact HR197_0.out | (with_reducible refine Kd.C_alloc ?_ _) | (with_reducible refine Kd.C_drewN ?_ _) | (with_reducible refine Kd.C_drew ?_))); (case side2 => exact HC197_0.out); (case side3 => repeat (first | exact HR198_0.out | (with_reducible refine Kd.C_alloc ?_ _) | (with_reducible refine Kd.C_drewN ?_ _) | (with_reducible refine Kd.C_drew ?_))); (case side4 => exact HC198_0.out); rintro e w' ⟨rfl, ⟨nd, rfl⟩⟩; (try first | exact ⟨rfl, _, World.drewN_drewN _ _ _⟩ | exact ⟨rfl, _, Eq.trans (World.drewN_drewN _ _ _) (congrArg (World.drewN _) (Nat.add_assoc _ _ _))⟩))))
        go_roundg k1
        case measure => have := HK1.out; omega
        case rel => exact ⟨(wrap64 (x5_1 + 1)), (by first | rfl | (simp; done) | (simp [*]; done)), H', ⟨by have := HK1.out; omega⟩, by repeat (first | exact Drawn0.refl _ | apply Drawn0.step)⟩
       ·replace c8 := Bool.eq_false_iff.mpr c8
        subst c8
        have H1 : (some false) = some r := by rw [if_neg (show ¬ (false = true) by decide)] at H; exact H
        clear H
        have H := H1
        clear H1
        obtain rfl := Option.some.inj H
        have p197 : 0 ≤ (x5_1 : Int) := of_decide_eq_true (by first | (with_reducible assumption) | assumption)
        have q197 : x5_1 < (l0.length : Int) := of_decide_eq_true (by first | (with_reducible assumption) | assumption)
        obtain ⟨ad197, A197_0, c197_0, e197, hx197_0, hl197_0, hi197_0⟩ := at_L1 HR0.out x5_1 p197 q197
        cases e197
        have HR197_0 := As0.mk hi197_0
        have HC197_0 := As0.mk hl197_0
        clear hi197_0 hl197_0
        replace p197 := eq_true p197
        replace q197 := eq_true q197
        have p198 : 0 ≤ (x5_1 : Int) := of_decide_eq_true (by first | (with_reducible assumption) | assumption)
        have q198 : x5_1 < (l1.length : Int) := of_decide_eq_true (by first | (with_reducible assumption) | assumption)
        obtain ⟨ad198, A198_0, c198_0, e198, hx198_0, hl198_0, hi198_0⟩ := at_L1 HR1.out x5_1 p198 q198
        cases e198
        have HR198_0 := As0.mk hi198_0
        have HC198_0 := As0.mk hl198_0
        clear hi198_0 hl198_0
        replace p198 := eq_true p198
        replace q198 := eq_true q198
        go_wp2_with (first | (go_at_call 23; (with_reducible refine (r00_EqInts.calls k1 _ _ (rd_L1 l0 x5_1) _ _ (rd_L1 l1 x5_1) false _ ?side1 ?side2 ?side3 ?side4 A7.out).mono ?_); (case side1 => repeat (first | exact HR197_0.out | (with_reducible refine Kd.C_alloc ?_ _) | (with_reducible refine Kd.C_drewN ?_ _) | (with_reducible refine Kd.C_drew ?_))); (case side2 => exact HC197_0.out); (case side3 => repeat (first | exact HR198_0.out | (with_reducible refine Kd.C_alloc ?_ _) | (with_reducible refine Kd.C_drewN ?_ _) | (with_reducible refine Kd.C_drew ?_))); (case side4 => exact HC198_0.out); rintro e w' ⟨rfl, ⟨nd, rfl⟩⟩; (try first | exact ⟨rfl, _, World.drewN_drewN _ _ _⟩ | exact ⟨rfl, _, Eq.trans (World.drewN_drewN _ _ _) (congrArg (World.drewN _) (Nat.add_assoc _ _ _))⟩)))
        repeat (go_quiet (first | (go_at_call 23; (with_reducible refine (r00_EqInts.calls k1 _ _ (rd_L1 l0 x5_1) _ _ (rd_L1 l1 x5_1) false _ ?side1 ?side2 ?side3 ?side4 A7.out).mono ?_); (case side1 => repeat (first | exact HR197_0.out | (with_reducible refine Kd.C_alloc ?_ _) | (with_reducible refine Kd.C_drewN ?_ _) | (with_reducible refine Kd.C_drew ?_))); (case side2 => exact HC197_0.out); (case side3 => repeat (first | exact HR198_0.out | (with_reducible refine Kd.C_alloc ?_ _) | (with_reducible refine Kd.C_drewN ?_ _) | (with_reducible refine Kd.C_drew ?_))); (case side4 => exact HC198_0.out); rintro e w' ⟨rfl, ⟨nd, rfl⟩⟩; (try first | exact ⟨rfl, _, World.drewN_drewN _ _ _⟩ | exact ⟨rfl, _, Eq.trans (World.drewN_drewN _ _ _) (congrArg (World.drewN _) (Nat.add_assoc _ _ _))⟩))); try go_wp2_with (first | (go_at_call 23; (with_reducible refine (r00_EqInts.calls k1 _ _ (rd_L1 l0 x5_1) _ _ (rd_L1 l1 x5_1) false _ ?side1 ?side2 ?side3 ?side4 A7.out).mono ?_); (case side1 => repeat (first | exact HR197_0.out | (with_reducible refine Kd.C_alloc ?_ _) | (with_reducible refine Kd.C_drewN ?_ _) | (with_reducible refine Kd.C_drew ?_))); (case side2 => exact HC197_0.out); (case side3 => repeat (first | exact HR198_0.out | (with_reducible refine Kd.C_alloc ?_ _) | (with_reducible refine Kd.C_drewN ?_ _) | (with_reducible refine Kd.C_drew ?_))); (case side4 => exact HC198_0.out); rintro e w' ⟨rfl, ⟨nd, rfl⟩⟩; (try first | exact ⟨rfl, _, World.drewN_drewN _ _ _⟩ | exact ⟨rfl, _, Eq.trans (World.drewN_drewN _ _ _) (congrArg (World.drewN _) (Nat.add_assoc _ _ _))⟩))))
        go_ret
        exact ⟨by first | rfl | (simp; done) | (simp [*]; done), by repeat (first | exact Drawn0.refl _ | apply Drawn0.step)⟩
      ·rw [if_neg c6] at H
       exact absurd H (by simp)
     ·rw [if_neg c5] at H
      exact absurd H (by simp)
    ·rw [if_neg c4] at H
     have c4b0 : decide (x5_1 < (l0.length : Int)) = false := decide_eq_false c4
     clear c4
     obtain rfl := Option.some.inj H
     go_wp2
     repeat (go_quiet (fail); try go_wp2)
     go_ret
     exact ⟨by first | rfl | (simp; done) | (simp [*]; done), by repeat (first | exact Drawn0.refl _ | apply Drawn0.step)⟩
 ·rw [if_neg c3] at H
  have c3b0 : ((l0.length : Int) == (l1.length : Int)) = false := beq_eq_false_iff_ne.mpr c3
  have c3b1 : ((l0.length : Int) != (l1.length : Int)) = true := bne_iff_ne.mpr c3
  have c3b2 : (l0.length == l1.length) = false := by first | simpa using c3 | (simp at c3 ⊢; omega)
  obtain rfl := Option.some.inj H
  go_enter Tryz.func52, Tryz.ntmps52
  go_wp2
  repeat (go_quiet (fail); try go_wp2)
  go_ret
  exact ⟨by first | rfl | (simp; done) | (simp [*]; done), by repeat (first | exact Drawn0.refl _ | apply Drawn0.step)⟩
end Go.Proofs.YtphkionjjhhhlaaGreat.Q
end
