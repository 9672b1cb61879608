/- Lemmas and walks of this proof (part 1). -/
import Derived.ArgAppend
import Derived.Below
import Derived.BigQuiet
import Derived.ChangeSame
import Derived.DataElems
import Derived.Deep.AppendLies
import Derived.Deep.CutBlock
import Derived.Deep.DeepCutAuto
import Derived.Deep.Draws
import Derived.Deep.LoopGhost
import Derived.Deep.OwnRows
import Derived.Deep.QuietTactic
import Derived.Deep.RegionHeld3
import Derived.Deep.Slices
import Derived.Deep.Strs
import Derived.KernelRfl
import Derived.Laws.BitsLemmas
import Derived.Laws.BytesArg
import Derived.Laws.EntriesVeiled
import Derived.Laws.IdiomCopy
import Derived.Laws.MakeOwn
import Derived.Laws.OwnMore
import Derived.Laws.Rows
import Derived.Laws.Slices
import Derived.Lib.AppendStr
import Derived.Lib.ConvBytes
import Derived.Maps.AppendAt
import Derived.OrdersHeld
import Derived.OwnWalk
import Derived.RowKit
import Derived.RowKit3
import Derived.Shelf.Abstract
import Derived.Tactics
import Derived.Test.YtphkionjjhhhlaaGreatProg
import Derived.WalkKit
import Derived.WalkSpells
import Derived.WideLaws
import Derived.Test.YtphkionjjhhhlaaGreatCChecks0
set_option linter.unusedVariables false
set_option linter.unusedSimpArgs false
section
namespace Go.Proofs.YtphkionjjhhhlaaGreat.Q
open Go.RowKit Go.Proofs.YtphkionjjhhhlaaGreatW.PrintWords Go.Proofs.YtphkionjjhhhlaaGreatW.PrintLast Go.Proofs.YtphkionjjhhhlaaGreatW.PrintMore
def errW : Option Int → Value
  | none => .nilIface
  | some c => .iface 0 (.int .i64 c)
theorem errW_none : errW none = .nilIface := rfl
theorem errW_some (c : Int) : errW (some c) = .iface 0 (.int .i64 c) := rfl
theorem info3 : (Tryz.prog.info? 3).map (fun i => (i.zero, i.size, i.bytes)) = some (some (.int .i64 0), 1, 8) := by kernel_rfl
theorem info4 : (Tryz.prog.info? 4).map (fun i => (i.zero, i.size, i.bytes)) = some (some (.bool false), 1, 1) := by kernel_rfl
theorem info39 : (Tryz.prog.info? 39).map (fun i => (i.zero, i.size, i.bytes)) = some (some (.slice none 0 0), 1, 24) := by kernel_rfl
def rd_L1 (xs : List (List Int)) (i : Int) : (List Int) := xs.getD i.toNat ([] : List Int)
theorem at_L1 {w : World} {A : Option Addr} {n : Nat} {xs : List (List Int)} (h : Kd.C (Kd.slice 3 (Kd.int .i64)) w A n xs) (i : Int) (h0 : 0 ≤ i) (h1 : i < n) : ∃ ad A0 c0, A = some ad ∧ w.cell? (ad.add i.toNat) = some (.slice A0 (rd_L1 xs i).length c0) ∧ (rd_L1 xs i).length ≤ c0 ∧ (Kd.int .i64).C w A0 (rd_L1 xs i).length (rd_L1 xs i) := by
  obtain ⟨ad, c, e, _, hK, hc0⟩ := Kd.C_get h ([] : List Int) i h0 h1
  have hc : ∀ j u, c[j]? = some u → w.cell? (ad.add (i.toNat * 1 + j)) = some u := hc0
  obtain ⟨A0, c0, rfl, l0, g0⟩ := hK
  exact ⟨ad, A0, c0, e, by have hq := hc 0 _ rfl; rwa [Nat.mul_one, Nat.add_zero] at hq, l0, g0⟩
structure S68 where
  f0 : Int
  f1 : Int
  f2 : (List Int)
  f3 : (List Int)
  f4 : (List Int)
  f5 : Int
  f6 : Int
  f7 : Int
  f8 : Int
  f9 : (List Int)
  f10 : Int
  f11 : Bool
def z68 : S68 := ⟨(0 : Int), (0 : Int), ([] : List Int), ([] : List Int), ([] : List Int), (0 : Int), (0 : Int), (0 : Int), (0 : Int), ([] : List Int), (0 : Int), false⟩
def k68 : Kd S68 := Kd.iso (Kd.pair (Kd.int .i64) (Kd.pair (Kd.int .i64) (Kd.pair (Kd.slice 5 (Kd.int .u8)) (Kd.pair (Kd.slice 3 (Kd.int .i64)) (Kd.pair (Kd.slice 3 (Kd.int .i64)) (Kd.pair (Kd.int .i64) (Kd.pair (Kd.int .i64) (Kd.pair (Kd.int .i64) (Kd.pair (Kd.int .i64) (Kd.pair (Kd.slice 3 (Kd.int .i64)) (Kd.pair (Kd.int .i64) Kd.bool))))))))))) (fun x : S68 => (x.f0, x.f1, x.f2, x.f3, x.f4, x.f5, x.f6, x.f7, x.f8, x.f9, x.f10, x.f11))
theorem k68_open {w : World} {x : S68} {cs : List Value} (h : k68.K w x cs) : ∃ A2 c2 A3 c3 A4 c4 A9 c9, cs = [.int .i64 x.f0, .int .i64 x.f1, .slice A2 x.f2.length c2, .slice A3 x.f3.length c3, .slice A4 x.f4.length c4, .int .i64 x.f5, .int .i64 x.f6, .int .i64 x.f7, .int .i64 x.f8, .slice A9 x.f9.length c9, .int .i64 x.f10, .bool x.f11] ∧ x.f2.length ≤ c2 ∧ (Kd.int .u8).C w A2 x.f2.length x.f2 ∧ x.f3.length ≤ c3 ∧ (Kd.int .i64).C w A3 x.f3.length x.f3 ∧ x.f4.length ≤ c4 ∧ (Kd.int .i64).C w A4 x.f4.length x.f4 ∧ x.f9.length ≤ c9 ∧ (Kd.int .i64).C w A9 x.f9.length x.f9 := by
  obtain ⟨_, _, rfl, rfl, ⟨_, _, rfl, rfl, ⟨_, _, rfl, ⟨A2, c2, rfl, l2, g2⟩, ⟨_, _, rfl, ⟨A3, c3, rfl, l3, g3⟩, ⟨_, _, rfl, ⟨A4, c4, rfl, l4, g4⟩, ⟨_, _, rfl, rfl, ⟨_, _, rfl, rfl, ⟨_, _, rfl, rfl, ⟨_, _, rfl, rfl, ⟨_, _, rfl, ⟨A9, c9, rfl, l9, g9⟩, ⟨_, _, rfl, rfl, rfl⟩⟩⟩⟩⟩⟩⟩⟩⟩⟩⟩ := h
  exact ⟨A2, c2, A3, c3, A4, c4, A9, c9, rfl, l2, g2, l3, g3, l4, g4, l9, g9⟩
theorem k68_mk (w : World) (x : S68) {A2 : Option Addr} {c2 : Nat} (l2 : x.f2.length ≤ c2) (g2 : (Kd.int .u8).C w A2 x.f2.length x.f2) {A3 : Option Addr} {c3 : Nat} (l3 : x.f3.length ≤ c3) (g3 : (Kd.int .i64).C w A3 x.f3.length x.f3) {A4 : Option Addr} {c4 : Nat} (l4 : x.f4.length ≤ c4) (g4 : (Kd.int .i64).C w A4 x.f4.length x.f4) {A9 : Option Addr} {c9 : Nat} (l9 : x.f9.length ≤ c9) (g9 : (Kd.int .i64).C w A9 x.f9.length x.f9) : k68.K w x [.int .i64 x.f0, .int .i64 x.f1, .slice A2 x.f2.length c2, .slice A3 x.f3.length c3, .slice A4 x.f4.length c4, .int .i64 x.f5, .int .i64 x.f6, .int .i64 x.f7, .int .i64 x.f8, .slice A9 x.f9.length c9, .int .i64 x.f10, .bool x.f11] := ⟨[.int .i64 x.f0], [.int .i64 x.f1, .slice A2 x.f2.length c2, .slice A3 x.f3.length c3, .slice A4 x.f4.length c4, .int .i64 x.f5, .int .i64 x.f6, .int .i64 x.f7, .int .i64 x.f8, .slice A9 x.f9.length c9, .int .i64 x.f10, .bool x.f11], rfl, rfl, ⟨[.int .i64 x.f1], [.slice A2 x.f2.length c2, .slice A3 x.f3.length c3, .slice A4 x.f4.length c4, .int .i64 x.f5, .int .i64 x.f6, .int .i64 x.f7, .int .i64 x.f8, .slice A9 x.f9.length c9, .int .i64 x.f10, .bool x.f11], rfl, rfl, ⟨[.slice A2 x.f2.length c2], [.slice A3 x.f3.length c3, .slice A4 x.f4.length c4, .int .i64 x.f5, .int .i64 x.f6, .int .i64 x.f7, .int .i64 x.f8, .slice A9 x.f9.length c9, .int .i64 x.f10, .bool x.f11], rfl, ⟨A2, c2, rfl, l2, g2⟩, ⟨[.slice A3 x.f3.length c3], [.slice A4 x.f4.length c4, .int .i64 x.f5, .int .i64 x.f6, .int .i64 x.f7, .int .i64 x.f8, .slice A9 x.f9.length c9, .int .i64 x.f10, .bool x.f11], rfl, ⟨A3, c3, rfl, l3, g3⟩, ⟨[.slice A4 x.f4.length c4], [.int .i64 x.f5, .int .i64 x.f6, .int .i64 x.f7, .int .i64 x.f8, .slice A9 x.f9.length c9, .int .i64 x.f10, .bool x.f11], rfl, ⟨A4, c4, rfl, l4, g4⟩, ⟨[.int .i64 x.f5], [.int .i64 x.f6, .int .i64 x.f7, .int .i64 x.f8, .slice A9 x.f9.length c9, .int .i64 x.f10, .bool x.f11], rfl, rfl, ⟨[.int .i64 x.f6], [.int .i64 x.f7, .int .i64 x.f8, .slice A9 x.f9.length c9, .int .i64 x.f10, .bool x.f11], rfl, rfl, ⟨[.int .i64 x.f7], [.int .i64 x.f8, .slice A9 x.f9.length c9, .int .i64 x.f10, .bool x.f11], rfl, rfl, ⟨[.int .i64 x.f8], [.slice A9 x.f9.length c9, .int .i64 x.f10, .bool x.f11], rfl, rfl, ⟨[.slice A9 x.f9.length c9], [.int .i64 x.f10, .bool x.f11], rfl, ⟨A9, c9, rfl, l9, g9⟩, ⟨[.int .i64 x.f10], [.bool x.f11], rfl, rfl, rfl⟩⟩⟩⟩⟩⟩⟩⟩⟩⟩⟩
def rd_T68 (xs : List S68) (i : Int) : S68 := xs.getD i.toNat z68
theorem at_T68 {w : World} {A : Option Addr} {n : Nat} {xs : List S68} (h : Kd.C k68 w A n xs) (i : Int) (h0 : 0 ≤ i) (h1 : i < n) : ∃ ad A2 c2 A3 c3 A4 c4 A9 c9, A = some ad ∧ w.cell? (ad.add (i.toNat * 12)) = some (.int .i64 (rd_T68 xs i).f0) ∧ w.cell? ⟨(ad.add (i.toNat * 12)).block, (ad.add (i.toNat * 12)).off + 1, none⟩ = some (.int .i64 (rd_T68 xs i).f1) ∧ w.cell? ⟨(ad.add (i.toNat * 12)).block, (ad.add (i.toNat * 12)).off + 2, none⟩ = some (.slice A2 (rd_T68 xs i).f2.length c2) ∧ w.cell? ⟨(ad.add (i.toNat * 12)).block, (ad.add (i.toNat * 12)).off + 3, none⟩ = some (.slice A3 (rd_T68 xs i).f3.length c3) ∧ w.cell? ⟨(ad.add (i.toNat * 12)).block, (ad.add (i.toNat * 12)).off + 4, none⟩ = some (.slice A4 (rd_T68 xs i).f4.length c4) ∧ w.cell? ⟨(ad.add (i.toNat * 12)).block, (ad.add (i.toNat * 12)).off + 5, none⟩ = some (.int .i64 (rd_T68 xs i).f5) ∧ w.cell? ⟨(ad.add (i.toNat * 12)).block, (ad.add (i.toNat * 12)).off + 6, none⟩ = some (.int .i64 (rd_T68 xs i).f6) ∧ w.cell? ⟨(ad.add (i.toNat * 12)).block, (ad.add (i.toNat * 12)).off + 7, none⟩ = some (.int .i64 (rd_T68 xs i).f7) ∧ w.cell? ⟨(ad.add (i.toNat * 12)).block, (ad.add (i.toNat * 12)).off + 8, none⟩ = some (.int .i64 (rd_T68 xs i).f8) ∧ w.cell? ⟨(ad.add (i.toNat * 12)).block, (ad.add (i.toNat * 12)).off + 9, none⟩ = some (.slice A9 (rd_T68 xs i).f9.length c9) ∧ w.cell? ⟨(ad.add (i.toNat * 12)).block, (ad.add (i.toNat * 12)).off + 10, none⟩ = some (.int .i64 (rd_T68 xs i).f10) ∧ w.cell? ⟨(ad.add (i.toNat * 12)).block, (ad.add (i.toNat * 12)).off + 11, none⟩ = some (.bool (rd_T68 xs i).f11) ∧ (rd_T68 xs i).f2.length ≤ c2 ∧ (Kd.int .u8).C w A2 (rd_T68 xs i).f2.length (rd_T68 xs i).f2 ∧ (rd_T68 xs i).f3.length ≤ c3 ∧ (Kd.int .i64).C w A3 (rd_T68 xs i).f3.length (rd_T68 xs i).f3 ∧ (rd_T68 xs i).f4.length ≤ c4 ∧ (Kd.int .i64).C w A4 (rd_T68 xs i).f4.length (rd_T68 xs i).f4 ∧ (rd_T68 xs i).f9.length ≤ c9 ∧ (Kd.int .i64).C w A9 (rd_T68 xs i).f9.length (rd_T68 xs i).f9 := by
  obtain ⟨ad, c, e, _, hK, hc0⟩ := Kd.C_get h z68 i h0 h1
  have hc : ∀ j u, c[j]? = some u → w.cell? (ad.add (i.toNat * 12 + j)) = some u := hc0
  obtain ⟨A2, c2, A3, c3, A4, c4, A9, c9, rfl, l2, g2, l3, g3, l4, g4, l9, g9⟩ := k68_open hK
  exact ⟨ad, A2, c2, A3, c3, A4, c4, A9, c9, e, hc 0 _ rfl, by rw [← add_field _ _ 1 (by omega)]; exact hc 1 _ rfl, by rw [← add_field _ _ 2 (by omega)]; exact hc 2 _ rfl, by rw [← add_field _ _ 3 (by omega)]; exact hc 3 _ rfl, by rw [← add_field _ _ 4 (by omega)]; exact hc 4 _ rfl, by rw [← add_field _ _ 5 (by omega)]; exact hc 5 _ rfl, by rw [← add_field _ _ 6 (by omega)]; exact hc 6 _ rfl, by rw [← add_field _ _ 7 (by omega)]; exact hc 7 _ rfl, by rw [← add_field _ _ 8 (by omega)]; exact hc 8 _ rfl, by rw [← add_field _ _ 9 (by omega)]; exact hc 9 _ rfl, by rw [← add_field _ _ 10 (by omega)]; exact hc 10 _ rfl, by rw [← add_field _ _ 11 (by omega)]; exact hc 11 _ rfl, l2, g2, l3, g3, l4, g4, l9, g9⟩
end Go.Proofs.YtphkionjjhhhlaaGreat.Q
end
section
namespace Go.Proofs.YtphkionjjhhhlaaGreat.Q
open Go.RowKit Go.Deep Go.ChangeShapes Go.WideShapes
open Go.Proofs.YtphkionjjhhhlaaGreatW.PrintWords Go.Proofs.YtphkionjjhhhlaaGreatW.PrintLast Go.Proofs.YtphkionjjhhhlaaGreatW.PrintMore
def Opens {α : Type} (P : Program) (t : TypeId) (E : Kd α) (G : α → Prop) : Prop :=
  P.cellsOf t = E.sz ∧ ∀ (H : Type) (enc : TypeId × Value → H) (w : World) (base : Nat) (held : Bool) (fuel : Nat) (cs : List Value) (x : DataW H × List MemPlace),
    DataW.trod enc P w base (fun _ => true) held fuel t cs = some x → ∃ a, E.K w a cs ∧ G a
theorem opens_int {P : Program} {t : TypeId} {k : IntKind} (ht : P.underlying t = some (.int k)) (hs : P.cellsOf t = 1) : Opens P t (Kd.int k) (fun n => (Lit.int k n).wf = true) :=
  ⟨hs, fun H enc w base held fuel cs x h => by
    obtain ⟨n, rfl, _, hw⟩ := DataW.trod_int ht h
    exact ⟨n, rfl, hw⟩⟩
theorem opens_bool {P : Program} {t : TypeId} (ht : P.underlying t = some .bool) (hs : P.cellsOf t = 1) : Opens P t Kd.bool (fun _ => True) :=
  ⟨hs, fun H enc w base held fuel cs x h => by
    obtain ⟨b, rfl, _⟩ := DataW.trod_bool ht h
    exact ⟨b, rfl, trivial⟩⟩
theorem list_of {α : Type} {p : Nat → α → Prop} : ∀ n, (∀ i, i < n → ∃ y, p i y) → ∃ l : List α, l.length = n ∧ ∀ j y, l[j]? = some y → p j y := by
  intro n
  induction n with
  | zero => exact fun _ => ⟨[], rfl, fun j y h => by simp at h⟩
  | succ n ih =>
    intro h
    obtain ⟨l, hl, hp⟩ := ih fun i hi => h i (by omega)
    obtain ⟨y, hy⟩ := h n (by omega)
    refine ⟨l ++ [y], by simp [hl], fun j z hz => ?_⟩
    by_cases hj : j < n
    · rw [List.getElem?_append_left (by omega)] at hz
      exact hp j z hz
    · have hjn : j = n := by
        have := (List.getElem?_eq_some_iff.1 hz).1
        simp [hl] at this
        omega
      subst hjn
      rw [List.getElem?_append_right (by omega), hl] at hz
      simp at hz
      rw [← hz]; exact hy
theorem opens_slice {α : Type} {P : Program} {t e : TypeId} {E : Kd α} {G : α → Prop} (ht : P.underlying t = some (.slice e)) (hs : P.cellsOf t = 1) (he : Opens P e E G) : Opens P t (Kd.slice e E) (fun l => ∀ a ∈ l, G a) := by
  refine ⟨hs, fun H enc w base held fuel cs x h => ?_⟩
  rcases open_slice ht h with ⟨rfl, _⟩ | ⟨a, len, cap, m, n, D, Pl, rfl, hb, hl, hm, hmm, _, hx⟩
  · exact ⟨[], ⟨none, 0, rfl, Nat.le_refl _, rfl, Nat.zero_le _, fun h => absurd h (Nat.lt_irrefl 0)⟩, by simp⟩
  · simp only [if_true] at hmm
    subst hmm
    obtain ⟨l, hll, hp⟩ := list_of (p := fun i y => ∃ cs', w.cells? base (a.add (i * P.cellsOf e)) (P.cellsOf e) = some cs' ∧ E.K w y cs' ∧ G y) len fun i hi => by
      obtain ⟨cs', h1, h2⟩ := hx i (by omega)
      obtain ⟨y, h3, h4⟩ := he.2 H enc w base held n cs' _ h2
      exact ⟨y, cs', h1, h3, h4⟩
    have hml : maxLen ≤ 9223372036854775807 := by decide
    refine ⟨l, ⟨some a, m, by rw [hll], by omega, rfl, by omega, fun _ => ⟨a, rfl, fun j p hj => ?_⟩⟩, fun y hy => ?_⟩
    · obtain ⟨cs', h1, h2, _⟩ := hp j p hj
      obtain ⟨_, h4, h5⟩ := World.cells?_some h1
      have hlen := E.K_len h2
      refine ⟨cs', hlen, h2, fun i u hu => ?_⟩
      have hi := (List.getElem?_eq_some_iff.1 hu).1
      have := h5 i (by omega)
      rw [Addr.add_add, he.1] at this
      rw [this]; exact hu
    · obtain ⟨j, hj⟩ := List.getElem?_of_mem hy
      obtain ⟨_, _, _, h⟩ := hp j y hj
      exact h
def OpensF {α : Type} (P : Program) (fs : List Field) (off : Nat) (E : Kd α) (G : α → Prop) : Prop :=
  ∀ (H : Type) (enc : TypeId × Value → H) (w : World) (base : Nat) (held : Bool) (n : Nat) (cs : List Value), (∀ f ∈ fs, ∃ y, DataW.trod enc P w base (fun _ => true) held n f.type ((cs.drop f.offset).take (P.cellsOf f.type)) = some y) →
    ∃ a, E.K w a ((cs.drop off).take E.sz) ∧ G a
theorem opensF_one {α : Type} {P : Program} {f : Field} {off : Nat} {E : Kd α} {G : α → Prop} (h : Opens P f.type E G) (ho : f.offset = off) : OpensF P [f] off E G := by
  intro H enc w base held n cs hf
  obtain ⟨y, hy⟩ := hf f (List.mem_singleton.2 rfl)
  rw [h.1, ho] at hy
  exact h.2 H enc w base held n _ _ hy
theorem opensF_cons {α β : Type} {P : Program} {f : Field} {fs : List Field} {off off' : Nat} {E : Kd α} {F : Kd β} {G : α → Prop} {G' : β → Prop} (h : Opens P f.type E G) (ho : f.offset = off) (hr : OpensF P fs off' F G') (h' : off' = off + E.sz) :
    OpensF P (f :: fs) off (Kd.pair E F) (fun a => G a.1 ∧ G' a.2) := by
  intro H enc w base held n cs hf
  obtain ⟨a, h1, h2⟩ := opensF_one h ho H enc w base held n cs (fun g hg => hf g (by rw [List.mem_singleton.1 hg]; exact List.mem_cons_self))
  obtain ⟨b, h3, h4⟩ := hr H enc w base held n cs (fun g hg => hf g (List.mem_cons_of_mem _ hg))
  refine ⟨(a, b), ⟨_, _, ?_, h1, h3⟩, h2, h4⟩
  show (cs.drop off).take (E.sz + F.sz) = _
  rw [h', List.take_add, List.drop_drop]
theorem opens_struct {α : Type} {P : Program} {t : TypeId} {fs : Array Field} {E : Kd α} {G : α → Prop} (ht : P.underlying t = some (.struct fs)) (hs : P.cellsOf t = E.sz) (h : OpensF P fs.toList 0 E G) : Opens P t E G := by
  refine ⟨hs, fun H enc w base held fuel cs x hx => ?_⟩
  obtain ⟨xs, n, _, rfl, hl, hlen, hf⟩ := DataW.trod_struct ht hx
  obtain ⟨a, h1, h2⟩ := h H enc w base held n cs fun f hfm => by
    obtain ⟨i, hi⟩ := List.getElem?_of_mem hfm
    have hi' : fs[i]? = some f := by simpa using hi
    have hlt : i < fs.size := (Array.getElem?_eq_some_iff.1 hi').1
    have := hf i f hi'
    rw [List.getElem?_eq_getElem (by omega)] at this
    exact ⟨_, this⟩
  refine ⟨a, ?_, h2⟩
  rwa [List.drop_zero, List.take_of_length_le (by omega)] at h1
theorem opens_iso {α β : Type} {P : Program} {t : TypeId} {E : Kd α} {G : α → Prop} (f : β → α) (g : α → β) (hg : ∀ a, f (g a) = a) (h : Opens P t E G) : Opens P t (Kd.iso E f) (fun b => G (f b)) :=
  ⟨h.1, fun H enc w base held fuel cs x hx => by
    obtain ⟨a, h1, h2⟩ := h.2 H enc w base held fuel cs x hx
    exact ⟨g a, (show E.K w (f (g a)) cs by rw [hg]; exact h1), (show G (f (g a)) by rw [hg]; exact h2)⟩⟩
end Go.Proofs.YtphkionjjhhhlaaGreat.Q
end
section
namespace Go.Proofs.YtphkionjjhhhlaaGreat.Q
open Go.RowKit Go.Deep Go.ChangeShapes Go.WideShapes
open Go.Proofs.YtphkionjjhhhlaaGreatW.PrintWords Go.Proofs.YtphkionjjhhhlaaGreatW.PrintLast Go.Proofs.YtphkionjjhhhlaaGreatW.PrintMore
abbrev Wi (n : Int) : Prop := (Lit.int .i64 n).wf = true
abbrev Wb (n : Int) : Prop := (Lit.int .u8 n).wf = true
abbrev Wis (l : List Int) : Prop := ∀ n ∈ l, Wi n
abbrev Wbs (l : List Int) : Prop := ∀ n ∈ l, Wb n
theorem o3 : Opens Tryz.prog 3 (Kd.int .i64) Wi := opens_int Tryz.underlying3 (by kernel_rfl)
theorem o4 : Opens Tryz.prog 4 Kd.bool (fun _ => True) := opens_bool Tryz.underlying4 (by kernel_rfl)
theorem o5 : Opens Tryz.prog 5 (Kd.int .u8) Wb := opens_int Tryz.underlying5 (by kernel_rfl)
theorem o39 : Opens Tryz.prog 39 (Kd.slice 3 (Kd.int .i64)) Wis := opens_slice Tryz.underlying39 (by kernel_rfl) o3
theorem o66 : Opens Tryz.prog 66 (Kd.slice 5 (Kd.int .u8)) Wbs := opens_slice Tryz.underlying66 (by kernel_rfl) o5
abbrev WItem (x : S68) : Prop := Wi x.f0 ∧ Wi x.f1 ∧ Wbs x.f2 ∧ Wis x.f3 ∧ Wis x.f4 ∧ Wi x.f5 ∧ Wi x.f6 ∧ Wi x.f7 ∧ Wi x.f8 ∧ Wis x.f9 ∧ Wi x.f10 ∧ True
set_option maxRecDepth 100000 in
theorem o68 : Opens Tryz.prog 68 k68 WItem :=
  opens_iso (fun x : S68 => (x.f0, x.f1, x.f2, x.f3, x.f4, x.f5, x.f6, x.f7, x.f8, x.f9, x.f10, x.f11)) (fun a => ⟨a.1, a.2.1, a.2.2.1, a.2.2.2.1, a.2.2.2.2.1, a.2.2.2.2.2.1, a.2.2.2.2.2.2.1, a.2.2.2.2.2.2.2.1, a.2.2.2.2.2.2.2.2.1, a.2.2.2.2.2.2.2.2.2.1, a.2.2.2.2.2.2.2.2.2.2.1, a.2.2.2.2.2.2.2.2.2.2.2⟩) (fun _ => rfl)
    (opens_struct Tryz.underlying68 (by kernel_rfl) (opensF_cons o3 rfl (opensF_cons o3 rfl (opensF_cons o66 rfl (opensF_cons o39 rfl (opensF_cons o39 rfl (opensF_cons o3 rfl (opensF_cons o3 rfl (opensF_cons o3 rfl (opensF_cons o3 rfl (opensF_cons o39 rfl (opensF_cons o3 rfl (opensF_one o4 rfl) rfl) rfl) rfl) rfl) rfl) rfl) rfl) rfl) rfl) rfl) rfl))
theorem o35 : Opens Tryz.prog 35 (Kd.slice 68 k68) (fun l => ∀ x ∈ l, WItem x) := opens_slice Tryz.underlying35 (by kernel_rfl) o68
end Go.Proofs.YtphkionjjhhhlaaGreat.Q
end
section
namespace Go.Proofs.YtphkionjjhhhlaaGreat.Q
open Go.RowKit Go.Proofs.YtphkionjjhhhlaaGreatW.PrintWords Go.Proofs.YtphkionjjhhhlaaGreatW.PrintLast Go.Proofs.YtphkionjjhhhlaaGreatW.PrintMore
def item_within.f (a0 : Int) (a1 : Int) (a2 : Int) : Option (Bool) := if a0 ≥ a1 then (some (decide (a0 ≤ a2))) else (some false)
set_option maxHeartbeats 8000000 in
set_option maxRecDepth 100000 in
theorem item_within.calls (a0 : Int) (a1 : Int) (a2 : Int) (r : Bool) (w : World) (h : item_within.f a0 a1 a2 = some r) :
    Calls Tryz.prog 48 #[.int .i64 a0, .int .i64 a1, .int .i64 a2] w fun e w' => e = .returned (.bool r) ∧ Drawn0 w w' := by
  have H : (if a0 ≥ a1 then (some (decide (a0 ≤ a2))) else (some false)) = some r := h
  clear h
  by_cases c4 : a0 ≥ a1
  · rw [if_pos c4] at H
    have c4b0 : decide (a1 ≤ a0) = true := decide_eq_true c4
    clear c4
    obtain rfl := Option.some.inj H
    go_enter Tryz.func48, Tryz.ntmps48
    go_wp2
    go_ret
    exact ⟨by first | rfl | (simp; done) | (simp [*]; done), by repeat (first | exact Drawn0.refl _ | apply Drawn0.step)⟩
  · rw [if_neg c4] at H
    have c4b0 : decide (a1 ≤ a0) = false := decide_eq_false c4
    clear c4
    obtain rfl := Option.some.inj H
    go_enter Tryz.func48, Tryz.ntmps48
    go_wp2
    go_ret
    exact ⟨by first | rfl | (simp; done) | (simp [*]; done), by repeat (first | exact Drawn0.refl _ | apply Drawn0.step)⟩
end Go.Proofs.YtphkionjjhhhlaaGreat.Q
end
section
namespace Go.Proofs.YtphkionjjhhhlaaGreat.Q
open Go.RowKit Go.Proofs.YtphkionjjhhhlaaGreatW.PrintWords Go.Proofs.YtphkionjjhhhlaaGreatW.PrintLast Go.Proofs.YtphkionjjhhhlaaGreatW.PrintMore
def idxAux {α : Type} (p : α → Bool) : List α → Nat → Int
  | [], _ => -1
  | x :: xs, i => if p x then (i : Int) else idxAux p xs (i + 1)
def idxOf {α : Type} (p : α → Bool) (xs : List α) : Int := idxAux p xs 0
theorem idxOf_step {α : Type} (p : α → Bool) (xs : List α) (i : Nat) (x : α) (h : xs[i]? = some x) : idxAux p (xs.drop i) i = if p x then (i : Int) else idxAux p (xs.drop (i + 1)) (i + 1) := by
  obtain ⟨hl, he⟩ := List.getElem?_eq_some_iff.1 h
  rw [List.drop_eq_getElem_cons hl, he]
  rfl
theorem idxOf_end {α : Type} (p : α → Bool) (xs : List α) (i : Nat) (h : xs.length ≤ i) : idxAux p (xs.drop i) i = -1 := by
  rw [List.drop_eq_nil_of_le h]
  rfl
structure PredIn (P : Program) (g : FuncId) (caps : Array Value) {α : Type} (enc : World → α → Value → Prop) (p : α → Bool) (w : World) : Prop where
  enters : ∀ (args : Array Value) (W : World), (callFunc g args).run P W = .ok (.enter g args) W
  tells : ∀ (W : World) (x : α) (v : Value), Below w.heap.size w W → enc W x v → Calls P g (#[v] ++ caps) W fun e w' => e = .returned (.bool (p x)) ∧ Below W.heap.size W w'
theorem pw_below_trans {w w1 w2 : World} (h : Below w.heap.size w w1) (k : Below w1.heap.size w1 w2) : Below w.heap.size w w2 := below_then h h.size k
theorem wrap64_id (n : Int) (h0 : -9223372036854775808 ≤ n) (h1 : n ≤ 9223372036854775807) : wrap64 n = n := by unfold wrap64; omega
set_option maxHeartbeats 8000000 in
set_option maxRecDepth 100000 in
theorem IndexFunc_int.calls (g : FuncId) (caps : Array Value) (p : Int → Bool) (A0 : Option Addr) (c0 : Nat) (l0 : List Int) (w : World) (hr0 : Kd.C (Kd.int .i64) w A0 l0.length l0)
    (hp : PredIn Tryz.prog g caps (fun _ (x : Int) v => v = .int .i64 x) p w) :
    Calls Tryz.prog 113 #[.slice A0 l0.length c0, .func (.func g) #[] caps] w fun e w' => e = .returned (.int .i64 (idxOf p l0)) ∧ Below w.heap.size w w' := by
  have HR0 := Aside0.mk hr0
  have hlen := Aside0.mk hr0.2.1
  clear hr0
  have HB := Aside0.mk (Below.refl w.heap.size w)
  have HP := Aside0.mk hp
  have hen := hp.enters
  clear hp
  have HI : Aside0 (0 ≤ (0 : Int) ∧ (0 : Int) + (l0.length : Nat) = l0.length ∧ idxAux p (l0.drop (0 : Int).toNat) (0 : Int).toNat = idxOf p l0) := ⟨by omega, by omega, rfl⟩
  go_enter Tryz.func113, Tryz.ntmps113
  go_wp2
  go_loopg [8] l0.length (fun kq v8 w' => ∃ i : Int, v8 = .int .i64 i ∧ Aside0 (0 ≤ i ∧ i + kq = l0.length ∧ idxAux p (l0.drop i.toNat) i.toNat = idxOf p l0) ∧ Aside0 (Below w.heap.size w w'))
  case atStart => exact ⟨0, rfl, HI, HB⟩
  case round =>
    clear HI HB
    obtain ⟨i, rfl, HI, HB⟩ := hrel
    cases gk with
    | zero =>
      have hge : decide (i < (l0.length : Int)) = false := by have := HI.out; simp; omega
      go_wp2
      go_ret
      exact ⟨by rw [← HI.out.2.2, idxOf_end p l0 i.toNat (by have := HI.out; omega)]; rfl, HB.out⟩
    | succ k1 =>
      have h0 : 0 ≤ i := by have := HI.out; omega
      have h1 : i < (l0.length : Int) := by have := HI.out; omega
      have hge : decide (i < (l0.length : Int)) = true := decide_eq_true h1
      have hg0 : decide (0 ≤ i) = true := decide_eq_true h0
      obtain ⟨ad, e0, hc⟩ := ReadsInt.at_ (Kd.reads_of_C (d := 0) HR0.out : ReadsInt w .i64 A0 l0.length l0) i h0 h1
      cases e0
      replace hc := (HB.out.cell (World.block_lt_of_cell? w _ hc)).trans hc
      have hx : Aside0 (l0[i.toNat]? = some (rd l0 i)) := ⟨by
        have hl : i.toNat < l0.length := by omega
        simp [rd, List.getElem?_eq_getElem hl, List.getD_eq_getElem?_getD]⟩
      have HC := Aside0.mk (HP.out.tells wr (rd l0 i) _ HB.out rfl)
      generalize rd l0 i = x at *
      replace h0 := eq_true h0
      replace h1 := eq_true h1
      cases hpx : p x with
      | true =>
        have HPX := Aside0.mk hpx
        rw [hpx] at HC
        clear hpx
        go_wp2_with (refine HC.out.mono ?_; rintro e w' ⟨rfl, hb⟩; have HB2 := Aside0.mk hb; clear hb)
        go_ret
        have h2 := HI.out.2.2
        exact ⟨by rw [← h2, idxOf_step p l0 i.toNat x hx.out, if_pos HPX.out, Int.toNat_of_nonneg HI.out.1]; rfl, (pw_below_trans HB.out HB2.out)⟩
      | false =>
        have HPX := Aside0.mk hpx
        rw [hpx] at HC
        clear hpx
        go_wp2_with (refine HC.out.mono ?_; rintro e w' ⟨rfl, hb⟩; have HB2 := Aside0.mk hb; clear hb)
        go_roundg k1
        case measure => omega
        case rel =>
          have hw : wrap64 (i + 1) = i + 1 := by have := HI.out; have := hlen.out; unfold wrap64; omega
          have h2 := HI.out.2.2
          refine ⟨i + 1, congrArg _ hw, ⟨by have := HI.out; omega, by have := HI.out; omega, ?_⟩, ⟨pw_below_trans HB.out HB2.out⟩⟩
          rw [← h2, idxOf_step p l0 i.toNat x hx.out, if_neg (by simp [HPX.out]), show (i + 1).toNat = i.toNat + 1 from by have := HI.out; omega]
end Go.Proofs.YtphkionjjhhhlaaGreat.Q
end
section
namespace Go.Proofs.YtphkionjjhhhlaaGreat.Q
open Go.RowKit Go.Proofs.YtphkionjjhhhlaaGreatW.PrintWords Go.Proofs.YtphkionjjhhhlaaGreatW.PrintLast Go.Proofs.YtphkionjjhhhlaaGreatW.PrintMore
set_option maxHeartbeats 8000000 in
set_option maxRecDepth 100000 in
theorem IndexFunc_rows.calls (g : FuncId) (caps : Array Value) (p : List Int → Bool) (A0 : Option Addr) (c0 : Nat) (l0 : List (List Int)) (w : World) (hr0 : Kd.C (Kd.slice 3 (Kd.int .i64)) w A0 l0.length l0)
    (hp : PredIn Tryz.prog g caps (fun W (x : List Int) v => ∃ A c, v = .slice A x.length c ∧ x.length ≤ c ∧ Kd.C (Kd.int .i64) W A x.length x) p w) :
    Calls Tryz.prog 157 #[.slice A0 l0.length c0, .func (.func g) #[] caps] w fun e w' => e = .returned (.int .i64 (idxOf p l0)) ∧ Below w.heap.size w w' := by
  have HR0 := Aside0.mk hr0
  have hlen := Aside0.mk hr0.2.1
  clear hr0
  have HB := Aside0.mk (Below.refl w.heap.size w)
  have HP := Aside0.mk hp
  have hen := hp.enters
  clear hp
  have HI : Aside0 (0 ≤ (0 : Int) ∧ (0 : Int) + (l0.length : Nat) = l0.length ∧ idxAux p (l0.drop (0 : Int).toNat) (0 : Int).toNat = idxOf p l0) := ⟨by omega, by omega, rfl⟩
  go_enter Tryz.func157, Tryz.ntmps157
  go_wp2
  go_loopg [8] l0.length (fun kq v8 w' => ∃ i : Int, v8 = .int .i64 i ∧ Aside0 (0 ≤ i ∧ i + kq = l0.length ∧ idxAux p (l0.drop i.toNat) i.toNat = idxOf p l0) ∧ Aside0 (Below w.heap.size w w'))
  case atStart => exact ⟨0, rfl, HI, HB⟩
  case round =>
    clear HI HB
    obtain ⟨i, rfl, HI, HB⟩ := hrel
    cases gk with
    | zero =>
      have hge : decide (i < (l0.length : Int)) = false := by have := HI.out; simp; omega
      go_wp2
      go_ret
      exact ⟨by rw [← HI.out.2.2, idxOf_end p l0 i.toNat (by have := HI.out; omega)]; rfl, HB.out⟩
    | succ k1 =>
      have h0 : 0 ≤ i := by have := HI.out; omega
      have h1 : i < (l0.length : Int) := by have := HI.out; omega
      have hge : decide (i < (l0.length : Int)) = true := decide_eq_true h1
      have hg0 : decide (0 ≤ i) = true := decide_eq_true h0
      obtain ⟨ad, A1, c1, e0, hc, hl1, hi1⟩ := at_L1 HR0.out i h0 h1
      cases e0
      replace hc := (HB.out.cell (World.block_lt_of_cell? w _ hc)).trans hc
      have hx : Aside0 (l0[i.toNat]? = some (rd_L1 l0 i)) := ⟨by
        have hl : i.toNat < l0.length := by omega
        simp [rd_L1, List.getElem?_eq_getElem hl, List.getD_eq_getElem?_getD]⟩
      have HC := Aside0.mk (HP.out.tells wr (rd_L1 l0 i) _ HB.out ⟨A1, c1, rfl, hl1, Kd.C_below hi1 HB.out⟩)
      clear hl1 hi1
      generalize rd_L1 l0 i = x at *
      replace h0 := eq_true h0
      replace h1 := eq_true h1
      cases hpx : p x with
      | true =>
        have HPX := Aside0.mk hpx
        rw [hpx] at HC
        clear hpx
        go_wp2_with (refine HC.out.mono ?_; rintro e w' ⟨rfl, hb⟩; have HB2 := Aside0.mk hb; clear hb)
        go_ret
        have h2 := HI.out.2.2
        exact ⟨by rw [← h2, idxOf_step p l0 i.toNat x hx.out, if_pos HPX.out, Int.toNat_of_nonneg HI.out.1]; rfl, (pw_below_trans HB.out HB2.out)⟩
      | false =>
        have HPX := Aside0.mk hpx
        rw [hpx] at HC
        clear hpx
        go_wp2_with (refine HC.out.mono ?_; rintro e w' ⟨rfl, hb⟩; have HB2 := Aside0.mk hb; clear hb)
        go_roundg k1
        case measure => omega
        case rel =>
          have hw : wrap64 (i + 1) = i + 1 := by have := HI.out; have := hlen.out; unfold wrap64; omega
          have h2 := HI.out.2.2
          refine ⟨i + 1, congrArg _ hw, ⟨by have := HI.out; omega, by have := HI.out; omega, ?_⟩, ⟨pw_below_trans HB.out HB2.out⟩⟩
          rw [← h2, idxOf_step p l0 i.toNat x hx.out, if_neg (by simp [HPX.out]), show (i + 1).toNat = i.toNat + 1 from by have := HI.out; omega]
end Go.Proofs.YtphkionjjhhhlaaGreat.Q
end
section
namespace Go.Proofs.YtphkionjjhhhlaaGreat.Q
open Go.RowKit Go.Proofs.YtphkionjjhhhlaaGreatW.PrintWords Go.Proofs.YtphkionjjhhhlaaGreatW.PrintLast Go.Proofs.YtphkionjjhhhlaaGreatW.PrintMore
def picture_within.f (a0 : Int) (a1 : Int) (a2 : Int) : Option (Bool) := if a0 ≥ a1 then (some (decide (a0 ≤ a2))) else (some false)
set_option maxHeartbeats 8000000 in
set_option maxRecDepth 100000 in
theorem picture_within.calls (a0 : Int) (a1 : Int) (a2 : Int) (r : Bool) (w : World) (h : picture_within.f a0 a1 a2 = some r) :
    Calls Tryz.prog 103 #[.int .i64 a0, .int .i64 a1, .int .i64 a2] w fun e w' => e = .returned (.bool r) ∧ Drawn0 w w' := by
  have H : (if a0 ≥ a1 then (some (decide (a0 ≤ a2))) else (some false)) = some r := h
  clear h
  by_cases c4 : a0 ≥ a1
  · rw [if_pos c4] at H
    have c4b0 : decide (a1 ≤ a0) = true := decide_eq_true c4
    clear c4
    obtain rfl := Option.some.inj H
    go_enter Tryz.func103, Tryz.ntmps103
    go_wp2
    go_ret
    exact ⟨by first | rfl | (simp; done) | (simp [*]; done), by repeat (first | exact Drawn0.refl _ | apply Drawn0.step)⟩
  · rw [if_neg c4] at H
    have c4b0 : decide (a1 ≤ a0) = false := decide_eq_false c4
    clear c4
    obtain rfl := Option.some.inj H
    go_enter Tryz.func103, Tryz.ntmps103
    go_wp2
    go_ret
    exact ⟨by first | rfl | (simp; done) | (simp [*]; done), by repeat (first | exact Drawn0.refl _ | apply Drawn0.step)⟩
end Go.Proofs.YtphkionjjhhhlaaGreat.Q
end
section
namespace Go.Proofs.YtphkionjjhhhlaaGreat.Q
open Go.RowKit Go.Proofs.YtphkionjjhhhlaaGreatW.PrintWords Go.Proofs.YtphkionjjhhhlaaGreatW.PrintLast Go.Proofs.YtphkionjjhhhlaaGreatW.PrintMore
theorem idxAux_any {α : Type} (p : α → Bool) (xs : List α) (i : Nat) : decide (0 ≤ idxAux p xs i) = xs.any p := by
  induction xs generalizing i with
  | nil => rfl
  | cons x xs ih =>
    cases h : p x with
    | true => simp [idxAux, h]
    | false => simp [idxAux, h, ← ih (i + 1)]
theorem idxOf_any {α : Type} (p : α → Bool) (xs : List α) : decide (idxOf p xs ≥ 0) = xs.any p := idxAux_any p xs 0
set_option maxHeartbeats 8000000 in
set_option maxRecDepth 100000 in
theorem ContainsFunc_int.calls (g : FuncId) (caps : Array Value) (p : Int → Bool) (A0 : Option Addr) (c0 : Nat) (l0 : List Int) (w : World) (hr0 : Kd.C (Kd.int .i64) w A0 l0.length l0)
    (hp : PredIn Tryz.prog g caps (fun _ (x : Int) v => v = .int .i64 x) p w) :
    Calls Tryz.prog 56 #[.slice A0 l0.length c0, .func (.func g) #[] caps] w fun e w' => e = .returned (.bool (l0.any p)) ∧ Below w.heap.size w w' := by
  have HC := Aside0.mk (IndexFunc_int.calls g caps p A0 c0 l0 w hr0 hp)
  clear hr0 hp
  rw [← idxOf_any]
  go_enter Tryz.func56, Tryz.ntmps56
  go_wp2_with (refine HC.out.mono ?_; rintro e w' ⟨rfl, hb⟩; have HB2 := Aside0.mk hb; clear hb)
  go_ret
  exact ⟨rfl, HB2.out⟩
set_option maxHeartbeats 8000000 in
set_option maxRecDepth 100000 in
theorem ContainsFunc_rows.calls (g : FuncId) (caps : Array Value) (p : List Int → Bool) (A0 : Option Addr) (c0 : Nat) (l0 : List (List Int)) (w : World) (hr0 : Kd.C (Kd.slice 3 (Kd.int .i64)) w A0 l0.length l0)
    (hp : PredIn Tryz.prog g caps (fun W (x : List Int) v => ∃ A c, v = .slice A x.length c ∧ x.length ≤ c ∧ Kd.C (Kd.int .i64) W A x.length x) p w) :
    Calls Tryz.prog 104 #[.slice A0 l0.length c0, .func (.func g) #[] caps] w fun e w' => e = .returned (.bool (l0.any p)) ∧ Below w.heap.size w w' := by
  have HC := Aside0.mk (IndexFunc_rows.calls g caps p A0 c0 l0 w hr0 hp)
  clear hr0 hp
  rw [← idxOf_any]
  go_enter Tryz.func104, Tryz.ntmps104
  go_wp2_with (refine HC.out.mono ?_; rintro e w' ⟨rfl, hb⟩; have HB2 := Aside0.mk hb; clear hb)
  go_ret
  exact ⟨rfl, HB2.out⟩
def btw (a b c : Int) : Bool := decide (b ≤ a) && decide (a ≤ c)
theorem within_f (a b c : Int) : picture_within.f a b c = some (btw a b c) := by
  unfold picture_within.f btw
  split
  · rename_i h; simp [h]
  · rename_i h; simp [show ¬ b ≤ a from h]
theorem within_any (a b c : Int) (w : World) : Calls Tryz.prog 103 #[.int .i64 a, .int .i64 b, .int .i64 c] w fun e w' => e = .returned (.bool (btw a b c)) ∧ Drawn0 w w' := picture_within.calls a b c _ w (within_f a b c)
theorem enters_105 : ∀ (args : Array Value) (W : World), (callFunc 105 args).run Tryz.prog W = .ok (.enter 105 args) W := enters_of Tryz.func105 (by kernel_rfl) rfl
theorem enters_106 : ∀ (args : Array Value) (W : World), (callFunc 106 args).run Tryz.prog W = .ok (.enter 106 args) W := enters_of Tryz.func106 (by kernel_rfl) rfl
set_option maxHeartbeats 8000000 in
set_option maxRecDepth 100000 in
theorem check1_any (A : Option Addr) (n c g : Nat) (a0 a1 a2 : Int) (v3 : Value) (w : World) (hg : w.heap[g]? = some (.cells #[.int .i64 a0, .int .i64 a1, .int .i64 a2, v3] 24 (0, 0))) :
    Calls Tryz.prog 105 #[.slice A n c, .pointer (some ⟨g, 0, none⟩)] w fun e w' => e = .returned (.bool ((n : Int) != wrap64 (a0 * a1))) ∧ Drawn0 w w' := by
  have hu24 := Tryz.underlying24
  have h0 := (blk_cell hg 0).trans rfl
  have h1 := (blk_cell hg 1).trans rfl
  clear hg
  go_enter Tryz.func105, Tryz.ntmps105
  go_wp2
  go_ret
  exact ⟨rfl, Drawn0.refl _⟩
set_option maxHeartbeats 8000000 in
set_option maxRecDepth 100000 in
theorem check2_any (x : Int) (g : Nat) (a0 a1 a2 : Int) (v3 : Value) (w : World) (hg : w.heap[g]? = some (.cells #[.int .i64 a0, .int .i64 a1, .int .i64 a2, v3] 24 (0, 0))) (hb : btw a2 1 12 = true) :
    Calls Tryz.prog 106 #[.int .i64 x, .pointer (some ⟨g, 0, none⟩)] w fun e w' => e = .returned (.bool (!(btw x 0 (2 ^ a2.toNat - 1)))) ∧ Below w.heap.size w w' := by
  have hu24 := Tryz.underlying24
  have h2 := (blk_cell hg 2).trans rfl
  clear hg
  simp only [btw, Bool.and_eq_true, decide_eq_true_eq] at hb
  obtain ⟨b1, b2⟩ := hb
  go_enter Tryz.func106, Tryz.ntmps106
  have hw : Aside0 (wrap64 (wrap64 (2 ^ a2.toNat) - 1) = 2 ^ a2.toNat - 1) := ⟨by
    have : a2 = 1 ∨ a2 = 2 ∨ a2 = 3 ∨ a2 = 4 ∨ a2 = 5 ∨ a2 = 6 ∨ a2 = 7 ∨ a2 = 8 ∨ a2 = 9 ∨ a2 = 10 ∨ a2 = 11 ∨ a2 = 12 := by omega
    rcases this with rfl | rfl | rfl | rfl | rfl | rfl | rfl | rfl | rfl | rfl | rfl | rfl <;> (rw [wrap64_id (2 ^ _) (by decide) (by decide), wrap64_id _ (by decide) (by decide)])⟩
  go_wp2_with (rw [hw.out]; refine (within_any _ _ _ _).mono ?_; rintro e w' ⟨rfl, hd⟩; have HD := Aside0.mk hd; clear hd)
  go_ret
  exact ⟨rfl, HD.out.below⟩
theorem within_is (a b c : Int) (v : Bool) (h : btw a b c = v) (w : World) : Calls Tryz.prog 103 #[.int .i64 a, .int .i64 b, .int .i64 c] w fun e w' => e = .returned (.bool v) ∧ Drawn0 w w' := h ▸ within_any a b c w
end Go.Proofs.YtphkionjjhhhlaaGreat.Q
end
section
namespace Go.Proofs.YtphkionjjhhhlaaGreat.Q
open Go.RowKit Go.Proofs.YtphkionjjhhhlaaGreatW.PrintWords Go.Proofs.YtphkionjjhhhlaaGreatW.PrintLast Go.Proofs.YtphkionjjhhhlaaGreatW.PrintMore
def okPlanes (bits : Int) (l : List (List Int)) : Bool := l.all fun p => !p.any fun v => !(btw v 0 (2 ^ bits.toNat - 1))
def picture_Check.f (a0_0 : Int) (a0_1 : Int) (a0_2 : Int) (l0_3 : List (List Int)) : Option Int :=
  some (if (btw a0_0 1 64 && btw a0_1 1 64 && btw a0_2 1 12 && btw (l0_3.length : Int) 1 4) = false then 1
    else if l0_3.any (fun p => (p.length : Int) != wrap64 (a0_0 * a0_1)) = true then 4
    else if okPlanes a0_2 l0_3 = true then 0 else 1)
theorem okPlanes_step (bits : Int) (l : List (List Int)) (i : Nat) (p : List Int) (h : l[i]? = some p) : okPlanes bits (l.drop i) = ((!p.any fun v => !(btw v 0 (2 ^ bits.toNat - 1))) && okPlanes bits (l.drop (i + 1))) := by
  obtain ⟨hl, he⟩ := List.getElem?_eq_some_iff.1 h
  rw [List.drop_eq_getElem_cons hl, he]
  simp [okPlanes]
theorem makeFunc_run : ∀ (fn : Fn) (first cap : Array Value) (w : World), (Instr.makeFunc fn first cap).run Tryz.prog w = .ok (.func fn first cap) w := fun _ _ _ _ => rfl
set_option maxHeartbeats 8000000 in
set_option maxRecDepth 100000 in
theorem picture_Check.calls (a0_0 : Int) (a0_1 : Int) (a0_2 : Int) (A0_3 : Option Addr) (c0_3 : Nat) (l0_3 : List (List Int)) (r : Int) (w : World) (hr0_3 : Kd.C (Kd.slice 3 (Kd.int .i64)) w A0_3 l0_3.length l0_3) (hc0_3 : l0_3.length ≤ c0_3) (h : picture_Check.f a0_0 a0_1 a0_2 l0_3 = some r) :
    Calls Tryz.prog 47 #[.agg #[.int .i64 a0_0, .int .i64 a0_1, .int .i64 a0_2, .slice A0_3 l0_3.length c0_3]] w fun e w' => e = .returned (.int .i64 r) ∧ Below w.heap.size w w' := by
  have hu24 := Tryz.underlying24
  have HR := Aside0.mk hr0_3
  clear hr0_3 hc0_3
  have HB := Aside0.mk (Below.refl w.heap.size w)
  injection h with h
  cases b1 : btw a0_0 1 64 with
  | false =>
    have HC1 := Aside0.mk (within_is _ _ _ _ b1)
    simp only [b1, Bool.false_and, Bool.and_false, Bool.true_and, Bool.and_true, if_true] at h
    clear b1
    subst h
    go_enter Tryz.func47, Tryz.ntmps47
    go_wp2_with (first | ((with_reducible refine gate_dst (N := 1) rfl ?_); refine box_event ?hg (N := 1) ?hd (cs := #[.int .i64 a0_0, .int .i64 a0_1, .int .i64 a0_2, .slice A0_3 l0_3.length c0_3]) (t := 24) ?hr ?_; (case hd => rfl); (case hg => rfl); (case hr => first | (go_simp; done) | (go_simp; rfl)); intro gb hg w2 hbox hb; have HB2 := Aside0.mk hb; have hgle : Aside0 (w.heap.size ≤ gb) := ⟨by omega⟩; have k0 := (blk_cell hbox 0).trans rfl; have k1 := (blk_cell hbox 1).trans rfl; have k2 := (blk_cell hbox 2).trans rfl; have k3 := (blk_cell hbox 3).trans rfl; have BK := Aside0.mk hbox; clear hb hbox hg) | (go_at_call 103; (with_reducible refine (HC1.out _).mono ?_); rintro e w' ⟨rfl, hd⟩; obtain ⟨n1, rfl⟩ := hd.out; clear hd))
    go_ret
    exact ⟨rfl, by repeat (first | exact HB2.out | apply pw_below_drewN)⟩
  | true =>
    cases b2 : btw a0_1 1 64 with
    | false =>
      have HC1 := Aside0.mk (within_is _ _ _ _ b1)
      have HC2 := Aside0.mk (within_is _ _ _ _ b2)
      simp only [b1, b2, Bool.false_and, Bool.and_false, Bool.true_and, Bool.and_true, if_true] at h
      clear b1 b2
      subst h
      go_enter Tryz.func47, Tryz.ntmps47
      go_wp2_with (first | ((with_reducible refine gate_dst (N := 1) rfl ?_); refine box_event ?hg (N := 1) ?hd (cs := #[.int .i64 a0_0, .int .i64 a0_1, .int .i64 a0_2, .slice A0_3 l0_3.length c0_3]) (t := 24) ?hr ?_; (case hd => rfl); (case hg => rfl); (case hr => first | (go_simp; done) | (go_simp; rfl)); intro gb hg w2 hbox hb; have HB2 := Aside0.mk hb; have hgle : Aside0 (w.heap.size ≤ gb) := ⟨by omega⟩; have k0 := (blk_cell hbox 0).trans rfl; have k1 := (blk_cell hbox 1).trans rfl; have k2 := (blk_cell hbox 2).trans rfl; have k3 := (blk_cell hbox 3).trans rfl; have BK := Aside0.mk hbox; clear hb hbox hg) | (go_at_call 103; (with_reducible refine (HC1.out _).mono ?_); rintro e w' ⟨rfl, hd⟩; obtain ⟨n1, rfl⟩ := hd.out; clear hd) | (go_at_call 103; (with_reducible refine (HC2.out _).mono ?_); rintro e w' ⟨rfl, hd⟩; obtain ⟨n2, rfl⟩ := hd.out; clear hd))
      go_ret
      exact ⟨rfl, by repeat (first | exact HB2.out | apply pw_below_drewN)⟩
    | true =>
      cases b3 : btw a0_2 1 12 with
      | false =>
        have HC1 := Aside0.mk (within_is _ _ _ _ b1)
        have HC2 := Aside0.mk (within_is _ _ _ _ b2)
        have HC3 := Aside0.mk (within_is _ _ _ _ b3)
        simp only [b1, b2, b3, Bool.false_and, Bool.and_false, Bool.true_and, Bool.and_true, if_true] at h
        clear b1 b2 b3
        subst h
        go_enter Tryz.func47, Tryz.ntmps47
        go_wp2_with (first | ((with_reducible refine gate_dst (N := 1) rfl ?_); refine box_event ?hg (N := 1) ?hd (cs := #[.int .i64 a0_0, .int .i64 a0_1, .int .i64 a0_2, .slice A0_3 l0_3.length c0_3]) (t := 24) ?hr ?_; (case hd => rfl); (case hg => rfl); (case hr => first | (go_simp; done) | (go_simp; rfl)); intro gb hg w2 hbox hb; have HB2 := Aside0.mk hb; have hgle : Aside0 (w.heap.size ≤ gb) := ⟨by omega⟩; have k0 := (blk_cell hbox 0).trans rfl; have k1 := (blk_cell hbox 1).trans rfl; have k2 := (blk_cell hbox 2).trans rfl; have k3 := (blk_cell hbox 3).trans rfl; have BK := Aside0.mk hbox; clear hb hbox hg) | (go_at_call 103; (with_reducible refine (HC1.out _).mono ?_); rintro e w' ⟨rfl, hd⟩; obtain ⟨n1, rfl⟩ := hd.out; clear hd) | (go_at_call 103; (with_reducible refine (HC2.out _).mono ?_); rintro e w' ⟨rfl, hd⟩; obtain ⟨n2, rfl⟩ := hd.out; clear hd) | (go_at_call 103; (with_reducible refine (HC3.out _).mono ?_); rintro e w' ⟨rfl, hd⟩; obtain ⟨n3, rfl⟩ := hd.out; clear hd))
        go_ret
        exact ⟨rfl, by repeat (first | exact HB2.out | apply pw_below_drewN)⟩
      | true =>
        cases b4 : btw (l0_3.length : Int) 1 4 with
        | false =>
          have HC1 := Aside0.mk (within_is _ _ _ _ b1)
          have HC2 := Aside0.mk (within_is _ _ _ _ b2)
          have HC3 := Aside0.mk (within_is _ _ _ _ b3)
          have HC4 := Aside0.mk (within_is _ _ _ _ b4)
          simp only [b1, b2, b3, b4, Bool.false_and, Bool.and_false, Bool.true_and, Bool.and_true, if_true] at h
          clear b1 b2 b3 b4
          subst h
          go_enter Tryz.func47, Tryz.ntmps47
          go_wp2_with (first | ((with_reducible refine gate_dst (N := 1) rfl ?_); refine box_event ?hg (N := 1) ?hd (cs := #[.int .i64 a0_0, .int .i64 a0_1, .int .i64 a0_2, .slice A0_3 l0_3.length c0_3]) (t := 24) ?hr ?_; (case hd => rfl); (case hg => rfl); (case hr => first | (go_simp; done) | (go_simp; rfl)); intro gb hg w2 hbox hb; have HB2 := Aside0.mk hb; have hgle : Aside0 (w.heap.size ≤ gb) := ⟨by omega⟩; have k0 := (blk_cell hbox 0).trans rfl; have k1 := (blk_cell hbox 1).trans rfl; have k2 := (blk_cell hbox 2).trans rfl; have k3 := (blk_cell hbox 3).trans rfl; have BK := Aside0.mk hbox; clear hb hbox hg) | (go_at_call 103; (with_reducible refine (HC1.out _).mono ?_); rintro e w' ⟨rfl, hd⟩; obtain ⟨n1, rfl⟩ := hd.out; clear hd) | (go_at_call 103; (with_reducible refine (HC2.out _).mono ?_); rintro e w' ⟨rfl, hd⟩; obtain ⟨n2, rfl⟩ := hd.out; clear hd) | (go_at_call 103; (with_reducible refine (HC3.out _).mono ?_); rintro e w' ⟨rfl, hd⟩; obtain ⟨n3, rfl⟩ := hd.out; clear hd) | (go_at_call 103; (with_reducible refine (HC4.out _).mono ?_); rintro e w' ⟨rfl, hd⟩; obtain ⟨n4, rfl⟩ := hd.out; clear hd))
          go_ret
          exact ⟨rfl, by repeat (first | exact HB2.out | apply pw_below_drewN)⟩
        | true =>
          have HC1 := Aside0.mk (within_is _ _ _ _ b1)
          have HC2 := Aside0.mk (within_is _ _ _ _ b2)
          have HC3 := Aside0.mk (within_is _ _ _ _ b3)
          have HC4 := Aside0.mk (within_is _ _ _ _ b4)
          have HB3 := Aside0.mk b3
          simp only [b1, b2, b3, b4, Bool.and_true, Bool.true_eq_false, if_false] at h
          clear b1 b2 b3 b4
          have hmf := makeFunc_run
          cases b5 : l0_3.any (fun p => (p.length : Int) != wrap64 (a0_0 * a0_1)) with
          | true =>
            simp only [b5, if_true] at h
            subst h
            have B5 := Aside0.mk b5
            clear b5
            go_enter Tryz.func47, Tryz.ntmps47
            go_wp2_with (first | ((with_reducible refine gate_dst (N := 1) rfl ?_); refine box_event ?hg (N := 1) ?hd (cs := #[.int .i64 a0_0, .int .i64 a0_1, .int .i64 a0_2, .slice A0_3 l0_3.length c0_3]) (t := 24) ?hr ?_; (case hd => rfl); (case hg => rfl); (case hr => first | (go_simp; done) | (go_simp; rfl)); intro gb hg w2 hbox hb; have HB2 := Aside0.mk hb; have hgle : Aside0 (w.heap.size ≤ gb) := ⟨by omega⟩; have k0 := (blk_cell hbox 0).trans rfl; have k1 := (blk_cell hbox 1).trans rfl; have k2 := (blk_cell hbox 2).trans rfl; have k3 := (blk_cell hbox 3).trans rfl; have BK := Aside0.mk hbox; clear hb hbox hg) | (go_at_call 103; (with_reducible refine (HC1.out _).mono ?_); rintro e w' ⟨rfl, hd⟩; obtain ⟨n1, rfl⟩ := hd.out; clear hd) | (go_at_call 103; (with_reducible refine (HC2.out _).mono ?_); rintro e w' ⟨rfl, hd⟩; obtain ⟨n2, rfl⟩ := hd.out; clear hd) | (go_at_call 103; (with_reducible refine (HC3.out _).mono ?_); rintro e w' ⟨rfl, hd⟩; obtain ⟨n3, rfl⟩ := hd.out; clear hd) | (go_at_call 103; (with_reducible refine (HC4.out _).mono ?_); rintro e w' ⟨rfl, hd⟩; obtain ⟨n4, rfl⟩ := hd.out; clear hd) | (go_at_call 104; (with_reducible refine (ContainsFunc_rows.calls 105 #[.pointer (some ⟨gb, 0, none⟩)] (fun p => (p.length : Int) != wrap64 (a0_0 * a0_1)) A0_3 c0_3 l0_3 _ ?hC ?hP).mono ?_); (case hC => exact Kd.C_below HR.out (by repeat (first | exact HB2.out | apply pw_below_drewN))); (case hP => refine ⟨enters_105, fun W x v hb he => ?_⟩; obtain ⟨A, c, rfl, _, _⟩ := he; exact (check1_any A x.length c gb a0_0 a0_1 a0_2 _ W ((hb.block gb (blk_lt BK.out)).trans BK.out)).mono (fun _ _ ⟨h1, h2⟩ => ⟨h1, h2.below⟩)); rintro e w' ⟨rfl, hb⟩; have BK2 := Aside0.mk ((hb.block gb (blk_lt BK.out)).trans BK.out); have HB4 := Aside0.mk (below_then (by repeat (first | exact HB2.out | apply pw_below_drewN) : Below w.heap.size w _) (by repeat (first | exact HB2.out.size | apply pw_below_drewN)) hb); clear hb; rw [B5.out]))
            go_ret
            exact ⟨rfl, HB4.out⟩
          | false =>
            simp only [b5, Bool.false_eq_true, if_false] at h
            have B5 := Aside0.mk b5
            have H := Aside0.mk h
            clear b5 h
            go_enter Tryz.func47, Tryz.ntmps47
            go_wp2_with (first | ((with_reducible refine gate_dst (N := 1) rfl ?_); refine box_event ?hg (N := 1) ?hd (cs := #[.int .i64 a0_0, .int .i64 a0_1, .int .i64 a0_2, .slice A0_3 l0_3.length c0_3]) (t := 24) ?hr ?_; (case hd => rfl); (case hg => rfl); (case hr => first | (go_simp; done) | (go_simp; rfl)); intro gb hg w2 hbox hb; have HB2 := Aside0.mk hb; have hgle : Aside0 (w.heap.size ≤ gb) := ⟨by omega⟩; have k0 := (blk_cell hbox 0).trans rfl; have k1 := (blk_cell hbox 1).trans rfl; have k2 := (blk_cell hbox 2).trans rfl; have k3 := (blk_cell hbox 3).trans rfl; have BK := Aside0.mk hbox; clear hb hbox hg) | (go_at_call 103; (with_reducible refine (HC1.out _).mono ?_); rintro e w' ⟨rfl, hd⟩; obtain ⟨n1, rfl⟩ := hd.out; clear hd) | (go_at_call 103; (with_reducible refine (HC2.out _).mono ?_); rintro e w' ⟨rfl, hd⟩; obtain ⟨n2, rfl⟩ := hd.out; clear hd) | (go_at_call 103; (with_reducible refine (HC3.out _).mono ?_); rintro e w' ⟨rfl, hd⟩; obtain ⟨n3, rfl⟩ := hd.out; clear hd) | (go_at_call 103; (with_reducible refine (HC4.out _).mono ?_); rintro e w' ⟨rfl, hd⟩; obtain ⟨n4, rfl⟩ := hd.out; clear hd) | (go_at_call 104; (with_reducible refine (ContainsFunc_rows.calls 105 #[.pointer (some ⟨gb, 0, none⟩)] (fun p => (p.length : Int) != wrap64 (a0_0 * a0_1)) A0_3 c0_3 l0_3 _ ?hC ?hP).mono ?_); (case hC => exact Kd.C_below HR.out (by repeat (first | exact HB2.out | apply pw_below_drewN))); (case hP => refine ⟨enters_105, fun W x v hb he => ?_⟩; obtain ⟨A, c, rfl, _, _⟩ := he; exact (check1_any A x.length c gb a0_0 a0_1 a0_2 _ W ((hb.block gb (blk_lt BK.out)).trans BK.out)).mono (fun _ _ ⟨h1, h2⟩ => ⟨h1, h2.below⟩)); rintro e w' ⟨rfl, hb⟩; have BK2 := Aside0.mk ((hb.block gb (blk_lt BK.out)).trans BK.out); have HB4 := Aside0.mk (below_then (by repeat (first | exact HB2.out | apply pw_below_drewN) : Below w.heap.size w _) (by repeat (first | exact HB2.out.size | apply pw_below_drewN)) hb); clear hb; rw [B5.out]; have k0 := (blk_cell BK2.out 0).trans rfl; have k1 := (blk_cell BK2.out 1).trans rfl; have k2 := (blk_cell BK2.out 2).trans rfl; have k3 := (blk_cell BK2.out 3).trans rfl))
            clear k0 k1 k2 k3 BK HB2 HC1 HC2 HC3 HC4 B5
            have HI : Aside0 (0 ≤ (0 : Int) ∧ (0 : Int) + (l0_3.length : Nat) = l0_3.length ∧ okPlanes a0_2 (l0_3.drop (0 : Int).toNat) = okPlanes a0_2 l0_3) := ⟨by omega, by omega, rfl⟩
            have hlen := Aside0.mk HR.out.2.1
            go_loopg [35] l0_3.length (fun kq v35 w' => ∃ i : Int, v35 = .int .i64 i ∧ Aside0 (0 ≤ i ∧ i + kq = l0_3.length ∧ okPlanes a0_2 (l0_3.drop i.toNat) = okPlanes a0_2 l0_3) ∧ Aside0 (Below w.heap.size w w') ∧ Aside0 (w'.heap[gb]? = some (.cells #[.int .i64 a0_0, .int .i64 a0_1, .int .i64 a0_2, .slice A0_3 l0_3.length c0_3] 24 (0, 0))))
            case atStart => exact ⟨0, rfl, HI, HB4, BK2⟩
            case round =>
              clear HI HB4 BK2
              obtain ⟨i, rfl, HI, HB4, BK2⟩ := hrel
              cases gk with
              | zero =>
                have hge : decide (i < (l0_3.length : Int)) = false := by have := HI.out; simp; omega
                go_wp2
                go_ret
                refine ⟨?_, HB4.out⟩
                have h2 := HI.out.2.2
                rw [List.drop_eq_nil_of_le (by have := HI.out; omega)] at h2
                rw [← H.out, ← h2]
                rfl
              | succ kq1 =>
                have h0 : 0 ≤ i := by have := HI.out; omega
                have h1 : i < (l0_3.length : Int) := by have := HI.out; omega
                have hge : decide (i < (l0_3.length : Int)) = true := decide_eq_true h1
                have hg0 : decide (0 ≤ i) = true := decide_eq_true h0
                obtain ⟨ad, A1, c1, e0, hc, hl1, hi1⟩ := at_L1 HR.out i h0 h1
                cases e0
                replace hc := (HB4.out.cell (World.block_lt_of_cell? w _ hc)).trans hc
                have hx : Aside0 (l0_3[i.toNat]? = some (rd_L1 l0_3 i)) := ⟨by
                  have hl : i.toNat < l0_3.length := by omega
                  simp [rd_L1, List.getElem?_eq_getElem hl, List.getD_eq_getElem?_getD]⟩
                have HX := Aside0.mk hi1
                clear hl1 hi1
                generalize rd_L1 l0_3 i = x at *
                replace h0 := eq_true h0
                replace h1 := eq_true h1
                cases b6 : x.any (fun v => !(btw v 0 (2 ^ a0_2.toNat - 1))) with
                | true =>
                  have B6 := Aside0.mk b6
                  clear b6
                  go_wp2_with (go_at_call 56; (with_reducible refine (ContainsFunc_int.calls 106 #[.pointer (some ⟨gb, 0, none⟩)] (fun v => !(btw v 0 (2 ^ a0_2.toNat - 1))) A1 c1 x _ ?hC ?hP).mono ?_); (case hC => exact Kd.C_below HX.out HB4.out); (case hP => refine ⟨enters_106, fun W y v hb he => ?_⟩; subst he; exact (check2_any y gb a0_0 a0_1 a0_2 _ W ((hb.block gb (blk_lt BK2.out)).trans BK2.out) HB3.out)); rintro e w' ⟨rfl, hb⟩; have BK3 := Aside0.mk ((hb.block gb (blk_lt BK2.out)).trans BK2.out); have HB5 := Aside0.mk (pw_below_trans HB4.out hb); clear hb; rw [B6.out])
                  go_ret
                  refine ⟨?_, HB5.out⟩
                  have h2 := HI.out.2.2
                  rw [okPlanes_step a0_2 l0_3 i.toNat x hx.out, B6.out] at h2
                  rw [← H.out, ← h2]
                  rfl
                | false =>
                  have B6 := Aside0.mk b6
                  clear b6
                  go_wp2_with (go_at_call 56; (with_reducible refine (ContainsFunc_int.calls 106 #[.pointer (some ⟨gb, 0, none⟩)] (fun v => !(btw v 0 (2 ^ a0_2.toNat - 1))) A1 c1 x _ ?hC ?hP).mono ?_); (case hC => exact Kd.C_below HX.out HB4.out); (case hP => refine ⟨enters_106, fun W y v hb he => ?_⟩; subst he; exact (check2_any y gb a0_0 a0_1 a0_2 _ W ((hb.block gb (blk_lt BK2.out)).trans BK2.out) HB3.out)); rintro e w' ⟨rfl, hb⟩; have BK3 := Aside0.mk ((hb.block gb (blk_lt BK2.out)).trans BK2.out); have HB5 := Aside0.mk (pw_below_trans HB4.out hb); clear hb; rw [B6.out])
                  go_roundg kq1
                  case measure => omega
                  case rel =>
                    have hw : wrap64 (i + 1) = i + 1 := by have := HI.out; have := hlen.out; unfold wrap64; omega
                    have h2 := HI.out.2.2
                    refine ⟨i + 1, congrArg _ hw, ⟨by have := HI.out; omega, by have := HI.out; omega, ?_⟩, HB5, BK3⟩
                    rw [← h2, okPlanes_step a0_2 l0_3 i.toNat x hx.out, B6.out, show (i + 1).toNat = i.toNat + 1 from by have := HI.out; omega]
                    rfl
end Go.Proofs.YtphkionjjhhhlaaGreat.Q
end
section
namespace Go.Proofs.YtphkionjjhhhlaaGreat.Q
open Go.RowKit Go.Proofs.YtphkionjjhhhlaaGreatW.PrintWords Go.Proofs.YtphkionjjhhhlaaGreatW.PrintLast Go.Proofs.YtphkionjjhhhlaaGreatW.PrintMore
def dioramaref15_in.f (a0 : Int) (a1 : Int) (a2 : Int) : Option (Bool) := if a0 ≥ a1 then (some (decide (a0 ≤ a2))) else (some false)
set_option maxHeartbeats 8000000 in
set_option maxRecDepth 100000 in
theorem dioramaref15_in.calls (a0 : Int) (a1 : Int) (a2 : Int) (r : Bool) (w : World) (h : dioramaref15_in.f a0 a1 a2 = some r) :
    Calls Tryz.prog 50 #[.int .i64 a0, .int .i64 a1, .int .i64 a2] w fun e w' => e = .returned (.bool r) ∧ Drawn0 w w' := by
  have H : (if a0 ≥ a1 then (some (decide (a0 ≤ a2))) else (some false)) = some r := h
  clear h
  by_cases c4 : a0 ≥ a1
  · rw [if_pos c4] at H
    have c4b0 : decide (a1 ≤ a0) = true := decide_eq_true c4
    clear c4
    obtain rfl := Option.some.inj H
    go_enter Tryz.func50, Tryz.ntmps50
    go_wp2
    go_ret
    exact ⟨by first | rfl | (simp; done) | (simp [*]; done), by repeat (first | exact Drawn0.refl _ | apply Drawn0.step)⟩
  · rw [if_neg c4] at H
    have c4b0 : decide (a1 ≤ a0) = false := decide_eq_false c4
    clear c4
    obtain rfl := Option.some.inj H
    go_enter Tryz.func50, Tryz.ntmps50
    go_wp2
    go_ret
    exact ⟨by first | rfl | (simp; done) | (simp [*]; done), by repeat (first | exact Drawn0.refl _ | apply Drawn0.step)⟩
end Go.Proofs.YtphkionjjhhhlaaGreat.Q
end
section
namespace Go.Proofs.YtphkionjjhhhlaaGreat.Q
open Go.RowKit Go.Proofs.YtphkionjjhhhlaaGreatW.PrintWords Go.Proofs.YtphkionjjhhhlaaGreatW.PrintLast Go.Proofs.YtphkionjjhhhlaaGreatW.PrintMore
theorem in15_is (a b c : Int) : dioramaref15_in.f a b c = some (btw a b c) := by
  unfold dioramaref15_in.f btw
  by_cases h : a ≥ b <;> simp [h]
theorem rd_at (l : List Int) (j : Nat) (x : Int) (h : l[j]? = some x) : rd l (j : Int) = x := by
  simp [rd, List.getD_eq_getElem?_getD, h]
theorem w64_succ (p : Nat) (h : p < 1000000000) : wrap64 ((p : Int) + 1) = ((p + 1 : Nat) : Int) := by unfold wrap64; omega
theorem drop_at {α : Type} (l : List α) (p : Nat) (x : α) (h : l[p]? = some x) : l.drop p = x :: l.drop (p + 1) := by
  obtain ⟨hl, he⟩ := List.getElem?_eq_some_iff.1 h
  rw [List.drop_eq_getElem_cons hl, he]
section
variable (a b c : Int) (l : List (List Int)) (hc : 1 ≤ c ∧ c ≤ 12) (hl : l.length ≤ 8) (hr : ∀ r ∈ l, r.length ≤ 5000)
end
end Go.Proofs.YtphkionjjhhhlaaGreat.Q
end
section
namespace Go.Proofs.YtphkionjjhhhlaaGreat.Q
open Go.RowKit Go.Proofs.YtphkionjjhhhlaaGreatW.PrintWords Go.Proofs.YtphkionjjhhhlaaGreatW.PrintLast Go.Proofs.YtphkionjjhhhlaaGreatW.PrintMore
def slices_Clone_int_int_120.f (l0 : List Int) : Option (List Int) := if l0.length < 17592186044416 then some l0 else none
set_option maxHeartbeats 8000000 in
set_option maxRecDepth 100000 in
theorem slices_Clone_int_int_120.calls (A0 : Option Addr) (c0 : Nat) (l0 : List Int) (r : List Int) (w : World) (hr0 : Kd.C (Kd.int .i64) w A0 l0.length l0) (hc0 : l0.length ≤ c0) (h : slices_Clone_int_int_120.f l0 = some r) :
    Calls Tryz.prog 120 #[.slice A0 l0.length c0] w fun e w' => ∃ v0_ : Value, e = .returned (v0_) ∧ Kd.R (Kd.int .i64) 3 w' w.heap.size (fun _ => True) v0_ r ∧ Below w.heap.size w w' := by
  unfold slices_Clone_int_int_120.f at h
  split at h
  case isFalse => cases h
  case isTrue hlim =>
  injection h with h
  subst h
  have HLIM := Aside0.mk hlim
  clear hlim
  have HR0 := Aside0.mk hr0
  clear hr0 hc0
  have HB := Aside0.mk (Below.refl w.heap.size w)
  rcases A0 with _ | ad
  · have hl : l0 = [] := by
      have := HR0.out.2.2
      cases l0 with
      | nil => rfl
      | cons a t => obtain ⟨ad, h, _⟩ := this (by simp); cases h
    subst hl
    have heq : ∀ W : World, (binOp .eql 39 (.slice none 0 c0) (.slice none 0 0)).run Tryz.prog W = .ok (.bool true) W := fun W => by simpa using Lib.run_eql_slice_nil W 39 3 none 0 c0 0 0 Tryz.underlying39
    go_enter Tryz.func120, Tryz.ntmps120
    go_wp2
    go_ret
    exact ⟨_, rfl, Kd.R_nil _ _ _ _ _, Below.refl _ _⟩
  · have heq : ∀ W : World, (binOp .eql 39 (.slice (some ad) l0.length c0) (.slice none 0 0)).run Tryz.prog W = .ok (.bool false) W := fun W => by simpa using Lib.run_eql_slice_nil W 39 3 (some ad) l0.length c0 0 0 Tryz.underlying39
    go_enter Tryz.func120, Tryz.ntmps120
    have HO : (Kd.int .i64).R 3 (w.alloc (.cells #[] 3)) w.heap.size (fun _ => True) (.slice (some ⟨w.heap.size, 0, none⟩) 0 0) ([] : List Int) :=
      ⟨fun _ _ => trivial, OwnRow.lit w w.heap.size (inner := []) (Reps.none _ _) (Nat.le_refl _) (by simp)⟩
    have HO' := Aside0.mk HO
    clear HO
    go_wp2_with (at_builtin; refine Kd.R_append_row (Value.int .i64) 0 (w0 := w) w.heap.size rfl (.tmp 5) (.tmp 6) 39 3 (.int .i64 0) 8 rfl Tryz.underlying39 info3 rfl (by decide) _ [] l0 (some ad) l0.length c0 (fun _ => True) rfl rfl (fun _ _ => trivial) HO'.out (Kd.C_alloc HR0.out _) (below_alloc HB.out _) (by simp) (by have := HLIM.out; simp; omega) ?_; intro v1 w1 hv1 hb1 _ _; have HV := Aside0.mk hv1; have HB1 := Aside0.mk hb1; clear hv1 hb1 HO')
    go_ret
    exact ⟨_, rfl, HV.out, HB1.out⟩
end Go.Proofs.YtphkionjjhhhlaaGreat.Q
end
section
namespace Go.Proofs.YtphkionjjhhhlaaGreat.Q
open Go.RowKit Go.Proofs.YtphkionjjhhhlaaGreatW.PrintWords Go.Proofs.YtphkionjjhhhlaaGreatW.PrintLast Go.Proofs.YtphkionjjhhhlaaGreatW.PrintMore
def shr (w0 : World) : Kd (List Int) where
  sz := 1
  E := []
  K := fun _ x cs => (Kd.slice 3 (Kd.int .i64)).K w0 x cs
  M := fun _ _ _ x cs => (Kd.slice 3 (Kd.int .i64)).K w0 x cs
  K_len := fun h => (Kd.slice 3 (Kd.int .i64)).K_len h
  K_one := fun h => (Kd.slice 3 (Kd.int .i64)).K_one h
  K_below := fun _ h => h
  K_of_M := fun h => h
  M_mono := fun _ h => h
  M_bound := fun h => h
  M_move := fun _ h => h
  M_lower := fun _ h => h
theorem shr_C {w : World} {A : Option Addr} {n : Nat} {l : List (List Int)} (h : Kd.C (Kd.slice 3 (Kd.int .i64)) w A n l) : Kd.C (shr w) w A n l := h
set_option maxHeartbeats 8000000 in
set_option maxRecDepth 100000 in
theorem Clone_rows (A0 : Option Addr) (c0 : Nat) (l0 : List (List Int)) (w0 w : World) (hr0 : Kd.C (Kd.slice 3 (Kd.int .i64)) w0 A0 l0.length l0) (hb0 : Below w0.heap.size w0 w) (hlim : l0.length < 5864062014805) :
    Calls Tryz.prog 119 #[.slice A0 l0.length c0] w fun e w' => ∃ v0_ : Value, e = .returned (v0_) ∧ (shr w0).R 39 w' w.heap.size (fun _ => True) v0_ l0 ∧ Below w.heap.size w w' := by
  have HLIM := Aside0.mk hlim
  clear hlim
  have HR0 := Aside0.mk (Kd.C_below (shr_C hr0) hb0)
  clear hr0 hb0
  have HB := Aside0.mk (Below.refl w.heap.size w)
  rcases A0 with _ | ad
  · have hl : l0 = [] := by
      have := HR0.out.2.2
      cases l0 with
      | nil => rfl
      | cons a t => obtain ⟨ad, h, _⟩ := this (by simp); cases h
    subst hl
    have heq : ∀ W : World, (binOp .eql 22 (.slice none 0 c0) (.slice none 0 0)).run Tryz.prog W = .ok (.bool true) W := fun W => by simpa using Lib.run_eql_slice_nil W 22 39 none 0 c0 0 0 Tryz.underlying22
    go_enter Tryz.func119, Tryz.ntmps119
    go_wp2
    go_ret
    exact ⟨_, rfl, Kd.R_nil _ _ _ _ _, Below.refl _ _⟩
  · have heq : ∀ W : World, (binOp .eql 22 (.slice (some ad) l0.length c0) (.slice none 0 0)).run Tryz.prog W = .ok (.bool false) W := fun W => by simpa using Lib.run_eql_slice_nil W 22 39 (some ad) l0.length c0 0 0 Tryz.underlying22
    go_enter Tryz.func119, Tryz.ntmps119
    have HO : (shr w0).R 39 (w.alloc (.cells #[] 39)) w.heap.size (fun _ => True) (.slice (some ⟨w.heap.size, 0, none⟩) 0 0) ([] : List (List Int)) :=
      ⟨fun _ _ => trivial, OwnRow.lit w w.heap.size (inner := []) (Reps.none _ _) (Nat.le_refl _) (by simp)⟩
    have HO' := Aside0.mk HO
    clear HO
    go_wp2_with (at_builtin; go_loud (refine Kd.R_append_rows (shr w0) (w0 := w) w.heap.size rfl (.tmp 5) (.tmp 6) 22 39 (.slice none 0 0) 24 rfl Tryz.underlying22 info39 rfl Nat.one_pos (by decide) _ [] l0 (some ad) l0.length c0 (fun _ => True) (fun _ => False) rfl rfl HO'.out (Kd.C_alloc HR0.out _) (fun _ _ h => h) (fun _ h => h.elim) (fun _ _ => trivial) (below_alloc HB.out _) (by simp) (by have := HLIM.out; simp; omega) ?_; intro v1 w1 hv1 hb1 _ _; have HV := Aside0.mk hv1; have HB1 := Aside0.mk hb1; clear hv1 hb1 HO'))
    go_ret
    exact ⟨_, rfl, HV.out, HB1.out⟩
end Go.Proofs.YtphkionjjhhhlaaGreat.Q
end
section
namespace Go.Proofs.YtphkionjjhhhlaaGreat.Q
open Go.RowKit Go.Proofs.YtphkionjjhhhlaaGreatW.PrintWords Go.Proofs.YtphkionjjhhhlaaGreatW.PrintLast Go.Proofs.YtphkionjjhhhlaaGreatW.PrintMore
theorem own_put {w : World} {base n cap g e : Nat} {inner : List Value} (h : w.ownsRow base e 1 (.slice (some ⟨g, 0, none⟩) n cap) n inner) (i : Nat) (u : Value) :
    (w.setCell ⟨g, i, none⟩ u).ownsRow base e 1 (.slice (some ⟨g, 0, none⟩) n cap) n (inner.set i u) := by
  obtain ⟨hl, h⟩ := h
  refine ⟨by rw [List.length_set]; exact hl, ?_⟩
  rcases h with ⟨h, _⟩ | ⟨g', cap', cur, hv, hb, hh, hn, hm, hs, ht⟩
  · cases h
  · injection hv with ha _ hc
    injection ha with ha
    injection ha with hg
    subst hg; subst hc
    exact .inr ⟨g, cap, _, rfl, hb, blk_put hh i u rfl, hn, hm, by rw [Array.size_setIfInBounds]; exact hs, by rw [Array.toList_setIfInBounds, List.take_set, ht]⟩
def ClI (w0 w : World) (i : Nat) (v : Value) (xs : List (List Int)) : Prop :=
  ∃ (f : Nat → Nat) (inner : List Value), w.ownsRow w0.heap.size 39 1 v xs.length inner ∧ ∀ j x, xs[j]? = some x →
    (j < i → ∃ u, inner[j]? = some u ∧ (Kd.int .i64).R 3 w w0.heap.size (fun k => some k ≠ v.ownBlock ∧ f k = j) u x) ∧
    (i ≤ j → ∃ A c, inner[j]? = some (.slice A x.length c) ∧ x.length ≤ c ∧ Kd.C (Kd.int .i64) w0 A x.length x)
theorem chunk_one (inner : List Value) (j : Nat) (v : Value) : (inner.drop (j * 1)).take 1 = [v] ↔ inner[j]? = some v := by
  rw [Nat.mul_one]
  constructor
  · intro h
    have := congrArg (·[0]?) h
    simpa using this
  · intro h
    obtain ⟨hl, he⟩ := List.getElem?_eq_some_iff.1 h
    rw [List.drop_eq_getElem_cons hl, he]
    rfl
theorem ClI.start {w0 w : World} {v : Value} {xs : List (List Int)} (h : (shr w0).R 39 w w0.heap.size (fun _ => True) v xs) : ClI w0 w 0 v xs := by
  obtain ⟨_, inner, ho, hr⟩ := h
  refine ⟨fun _ => 0, inner, ho, fun j x hx => ⟨fun h => by omega, fun _ => ?_⟩⟩
  obtain ⟨A, c, he, hl, hc⟩ := hr.2 j x hx
  exact ⟨A, c, (chunk_one inner j _).1 he, hl, hc⟩
theorem ClI.done {w0 w : World} {v : Value} {xs : List (List Int)} (h : ClI w0 w xs.length v xs) : Kd.S (Kd.slice 3 (Kd.int .i64)) 39 w w0.heap.size (fun _ => True) v xs := by
  obtain ⟨f, inner, ho, hr⟩ := h
  refine ⟨f, fun _ _ => trivial, inner, by rw [List.length_zipIdx]; exact ho, by rw [List.length_zipIdx]; exact ho.1, fun j p hj => ?_⟩
  rw [List.getElem?_zipIdx, Nat.zero_add] at hj
  obtain ⟨x, hx, rfl⟩ := Option.map_eq_some_iff.1 hj
  obtain ⟨u, hu, hR⟩ := (hr j x hx).1 (List.getElem?_eq_some_iff.1 hx).1
  exact ⟨u, (chunk_one inner j u).2 hu, Kd.R_mono hR (fun k hk => ⟨⟨trivial, hk.1⟩, hk.2⟩)⟩
theorem ClI.size {w0 w : World} {i : Nat} {v : Value} {xs : List (List Int)} (h : ClI w0 w i v xs) : ∃ A c, v = .slice A xs.length c := by
  obtain ⟨f, inner, ho, _⟩ := h
  rcases ho.2 with ⟨h, h0⟩ | ⟨g, cap, _, h, _⟩
  · exact ⟨none, 0, by rw [h, h0]⟩
  · exact ⟨_, _, h⟩
theorem ClI.form {w0 w : World} {i : Nat} {v : Value} {xs : List (List Int)} (h : ClI w0 w i v xs) (hp : 0 < xs.length) : ∃ g cap cells, v = .slice (some ⟨g, 0, none⟩) xs.length cap ∧ w0.heap.size ≤ g ∧ w.heap[g]? = some (.cells cells 39 (0, 0)) := by
  obtain ⟨f, inner, ho, _⟩ := h
  rcases ho.2 with ⟨h, h0⟩ | ⟨g, cap, cur, h, hb, hh, _⟩
  · omega
  · exact ⟨g, cap, cur, h, hb, hh⟩
theorem ClI.move {w0 w w1 : World} {i : Nat} {v : Value} {xs : List (List Int)} (h : ClI w0 w i v xs) (hm : ∀ (k : Nat) (cells : Array Value) (t : Nat), w.heap[k]? = some (Obj.cells cells t (0, 0)) → t = 39 ∨ t = 3 → w1.heap[k]? = w.heap[k]?) : ClI w0 w1 i v xs := by
  obtain ⟨f, inner, ho, hr⟩ := h
  refine ⟨f, inner, ?_, fun j x hx => ⟨fun hj => ?_, (hr j x hx).2⟩⟩
  · refine ⟨ho.1, ?_⟩
    rcases ho.2 with h | ⟨g, cap, cur, h1, h2, h3, h4⟩
    · exact .inl h
    · exact .inr ⟨g, cap, cur, h1, h2, (hm g _ _ h3 (.inl rfl)).trans h3, h4⟩
  · obtain ⟨u, hu, hR⟩ := (hr j x hx).1 hj
    refine ⟨u, hu, Kd.R_mono (Kd.R_move (Kd.R_bound hR) (fun k hk => ?_)) (fun _ hk => hk.1)⟩
    obtain ⟨q, hq, cells, hc⟩ := hk.2.2.2
    simp [Kd.int, Kd.scalar] at hq
    exact hm k cells q hc (.inr hq)
theorem ClI.below {w0 w w1 : World} {i : Nat} {v : Value} {xs : List (List Int)} (h : ClI w0 w i v xs) (hb : Below w.heap.size w w1) : ClI w0 w1 i v xs :=
  h.move (fun k _ _ hk _ => hb.block k (blk_lt hk))
theorem ClI.set {w0 w : World} {i : Nat} {v : Value} {xs : List (List Int)} {g t : Nat} {cells : Array Value} (h : ClI w0 w i v xs) (hb : w.heap[g]? = some (.cells cells t (0, 0))) (ht : t ≠ 39 ∧ t ≠ 3) (j : Nat) (u : Value) : ClI w0 (w.setCell ⟨g, j, none⟩ u) i v xs :=
  h.move (fun k _ t' hk h2 => Below.heap_setCell w _ u k (fun he => by
    have he : k = g := he
    rw [he, hb] at hk; simp only [Option.some.injEq, Obj.cells.injEq] at hk; obtain ⟨_, h3, _⟩ := hk; rcases h2 with h2 | h2; exact ht.1 (h3.trans h2); exact ht.2 (h3.trans h2)))
theorem ClI.step {w0 w w1 : World} {i g cap : Nat} {xs : List (List Int)} {x : List Int} {u : Value} (h : ClI w0 w i (.slice (some ⟨g, 0, none⟩) xs.length cap) xs) (hx : xs[i]? = some x) (hb : Below w.heap.size w w1)
    (hu : (Kd.int .i64).R 3 w1 w.heap.size (fun _ => True) u x) (hg : g < w.heap.size) (h0 : w0.heap.size ≤ w.heap.size) : ClI w0 (w1.setCell ⟨g, i, none⟩ u) (i + 1) (.slice (some ⟨g, 0, none⟩) xs.length cap) xs := by
  have hil := (List.getElem?_eq_some_iff.1 hx).1
  obtain ⟨f, inner, ho, hr⟩ := h.below hb
  have hin : inner.length = xs.length := by have := ho.1; omega
  obtain ⟨f0, inner0, ho0, hr0⟩ := h
  have hii : inner0 = inner := by
    rcases ho.2 with ⟨h, _⟩ | ⟨g1, c1, cur, h1, h2, h3, h4, h5, h6, h7⟩
    · cases h
    rcases ho0.2 with ⟨h, _⟩ | ⟨g1', c1', cur', h1', h2', h3', h4', h5', h6', h7'⟩
    · cases h
    injection h1 with ha _ hc
    injection ha with ha
    injection ha with hg1
    injection h1' with ha _ hc
    injection ha with ha
    injection ha with hg1'
    subst hg1; subst hg1'
    rw [hb.block _ hg, h3'] at h3
    injection h3 with h3
    injection h3 with h3
    rw [← h7, ← h7', h3]
  subst hii
  refine ⟨fun k => if k < w.heap.size then f0 k else i, inner0.set i u, own_put ho i u, fun j y hy => ⟨fun hj => ?_, fun hj => ?_⟩⟩
  · rcases Nat.lt_or_eq_of_le (Nat.le_of_lt_succ hj) with hlt | rfl
    · obtain ⟨u1, hu1, hR⟩ := (hr0 j y hy).1 hlt
      refine ⟨u1, by rw [List.getElem?_set_ne (by omega)]; exact hu1, ?_⟩
      refine Kd.R_mono (Kd.R_move (Kd.R_bound hR) (fun k hk => ?_)) (fun k hk => ⟨hk.1.1, by show (if k < w.heap.size then f0 k else i) = j; rw [if_pos hk.2.2.1]; exact hk.1.2⟩)
      have hkg : k ≠ g := fun he => hk.1.1 (by rw [he]; simp [Value.ownBlock])
      exact (Below.heap_setCell w1 _ u k hkg).trans (hb.block k hk.2.2.1)
    · obtain rfl : x = y := by rw [hx] at hy; exact Option.some.inj hy
      refine ⟨u, by rw [List.getElem?_set_self (by omega)], ?_⟩
      refine Kd.R_lower (base := w.heap.size) ?_ h0
      refine Kd.R_mono (Kd.R_move (Kd.R_bound hu) (fun k hk => ?_)) (fun k hk => ⟨by simp only [Value.ownBlock]; intro he; injection he with he; omega, by show (if k < w.heap.size then f0 k else j) = j; rw [if_neg (by omega)]⟩)
      exact Below.heap_setCell w1 _ u k (fun he => by have he : k = g := he; omega)
  · obtain ⟨A, c, he, hl, hc⟩ := (hr0 j y hy).2 (by omega)
    exact ⟨A, c, by rw [List.getElem?_set_ne (by omega)]; exact he, hl, hc⟩
theorem ClI.read {w0 w : World} {i g cap : Nat} {xs : List (List Int)} {x : List Int} (h : ClI w0 w i (.slice (some ⟨g, 0, none⟩) xs.length cap) xs) (hx : xs[i]? = some x) :
    ∃ A c, w.cell? ⟨g, i, none⟩ = some (.slice A x.length c) ∧ w.frozen? ⟨g, i, none⟩ = false ∧ x.length ≤ c ∧ Kd.C (Kd.int .i64) w0 A x.length x := by
  obtain ⟨f, inner, ho, hr⟩ := h
  obtain ⟨A, c, he, hl, hc⟩ := (hr i x hx).2 (Nat.le_refl _)
  rcases ho.2 with ⟨h, _⟩ | ⟨g1, c1, cur, h1, h2, h3, h4, h5, h6, h7⟩
  · cases h
  injection h1 with ha _ hc1
  injection ha with ha
  injection ha with hg1
  subst hg1
  refine ⟨A, c, ?_, by simp [World.frozen?, h3], hl, hc⟩
  rw [cell_of_row w g i cur 39 (0, 0) h3, ← Array.getElem?_toList]
  rw [← h7, List.getElem?_take] at he
  split at he
  · exact he
  · cases he
theorem four_put {w : World} {g t : Nat} {o0 o1 o2 o3 : Value} (h : w.heap[g]? = some (.cells #[o0, o1, o2, o3] t (0, 0))) (v0 v1 v2 v3 : Value) :
    ((((w.setCell ⟨g, 0, none⟩ v0).setCell ⟨g, 1, none⟩ v1).setCell ⟨g, 2, none⟩ v2).setCell ⟨g, 3, none⟩ v3).heap[g]? = some (.cells #[v0, v1, v2, v3] t (0, 0)) :=
  blk_put (blk_put (blk_put (blk_put h 0 v0 rfl) 1 v1 rfl) 2 v2 rfl) 3 v3 rfl
theorem four_S {α : Type} {d : Kd α} {e base : Nat} {w : World} {ok : Nat → Prop} {v : Value} {xs : List α} (h : Kd.S d e w base ok v xs) {g t : Nat} {o0 o1 o2 o3 : Value} (hb : w.heap[g]? = some (.cells #[o0, o1, o2, o3] t (0, 0))) (ht : ∀ q, q ∈ e :: d.E → q ≠ t) (v0 v1 v2 v3 : Value) :
    Kd.S d e ((((w.setCell ⟨g, 0, none⟩ v0).setCell ⟨g, 1, none⟩ v1).setCell ⟨g, 2, none⟩ v2).setCell ⟨g, 3, none⟩ v3) base ok v xs :=
  Kd.S_set (Kd.S_set (Kd.S_set (Kd.S_set h hb ht 0 v0) (blk_put hb 0 v0 rfl) ht 1 v1) (blk_put (blk_put hb 0 v0 rfl) 1 v1 rfl) ht 2 v2) (blk_put (blk_put (blk_put hb 0 v0 rfl) 1 v1 rfl) 2 v2 rfl) ht 3 v3
theorem four_far {w : World} {g g' : Nat} {o : Obj} (h : w.heap[g']? = some o) (hne : g' ≠ g) (v0 v1 v2 v3 : Value) :
    ((((w.setCell ⟨g, 0, none⟩ v0).setCell ⟨g, 1, none⟩ v1).setCell ⟨g, 2, none⟩ v2).setCell ⟨g, 3, none⟩ v3).heap[g']? = some o := by
  have f : ∀ (W : World) (j : Nat) (u : Value), W.heap[g']? = some o → (W.setCell ⟨g, j, none⟩ u).heap[g']? = some o := fun W j u hW => (Below.heap_setCell W _ u g' hne).trans hW
  exact f _ _ _ (f _ _ _ (f _ _ _ (f _ _ _ h)))
theorem four_below {w0 w : World} {g : Nat} (h : Below w0.heap.size w0 w) (hg : w0.heap.size ≤ g) (v0 v1 v2 v3 : Value) :
    Below w0.heap.size w0 ((((w.setCell ⟨g, 0, none⟩ v0).setCell ⟨g, 1, none⟩ v1).setCell ⟨g, 2, none⟩ v2).setCell ⟨g, 3, none⟩ v3) := below_set (below_set (below_set (below_set h hg) hg) hg) hg
theorem ne_types {w : World} {g g' t t' : Nat} {c c' : Array Value} (h : w.heap[g]? = some (.cells c t (0, 0))) (h' : w.heap[g']? = some (.cells c' t' (0, 0))) (ht : t ≠ t') : g ≠ g' := by
  rintro rfl
  rw [h] at h'
  simp only [Option.some.injEq, Obj.cells.injEq] at h'
  exact ht h'.2.1
end Go.Proofs.YtphkionjjhhhlaaGreat.Q
end
section
namespace Go.Proofs.YtphkionjjhhhlaaGreat.Q
open Go.RowKit Go.Proofs.YtphkionjjhhhlaaGreatW.PrintWords Go.Proofs.YtphkionjjhhhlaaGreatW.PrintLast Go.Proofs.YtphkionjjhhhlaaGreatW.PrintMore
def mirK (off m k : Nat) (xs : List Int) : List Int :=
  (List.range xs.length).map fun q => xs.getD (if off ≤ q ∧ q < off + m ∧ (q < off + k ∨ off + m ≤ q + k) then 2 * off + m - 1 - q else q) 0
theorem mirK_length (off m k : Nat) (xs : List Int) : (mirK off m k xs).length = xs.length := by simp [mirK]
theorem mirK_get (off m k : Nat) (xs : List Int) (q : Nat) (h : q < xs.length) : (mirK off m k xs)[q]? = some (xs.getD (if off ≤ q ∧ q < off + m ∧ (q < off + k ∨ off + m ≤ q + k) then 2 * off + m - 1 - q else q) 0) := by
  simp [mirK, h]
theorem mirK_rd (off m k : Nat) (xs : List Int) (q : Nat) (h : q < xs.length) : rdOf 0 (mirK off m k xs) (q : Int) = xs.getD (if off ≤ q ∧ q < off + m ∧ (q < off + k ∨ off + m ≤ q + k) then 2 * off + m - 1 - q else q) 0 := by
  have := mirK_get off m k xs q h
  simp [rdOf, List.getD_eq_getElem?_getD, this]
theorem mirK_zero (off m : Nat) (xs : List Int) : mirK off m 0 xs = xs := by
  apply List.ext_getElem?
  intro q
  by_cases h : q < xs.length
  · rw [mirK_get off m 0 xs q h, if_neg (by omega)]
    simp [List.getD_eq_getElem?_getD, h]
  · rw [List.getElem?_eq_none (by rw [mirK_length]; omega), List.getElem?_eq_none (by omega)]
theorem mirK_step (off m k : Nat) (xs : List Int) (hm : off + m ≤ xs.length) (hk : k + k + 1 < m) :
    ((mirK off m k xs).set (off + k) (xs.getD (off + (m - 1 - k)) 0)).set (off + (m - 1 - k)) (xs.getD (off + k) 0) = mirK off m (k + 1) xs := by
  apply List.ext_getElem?
  intro q
  by_cases h : q < xs.length
  · rw [mirK_get off m (k + 1) xs q h, List.getElem?_set]
    by_cases h1 : off + (m - 1 - k) = q
    · rw [if_pos h1, if_pos (by rw [List.length_set, mirK_length]; omega), if_pos (by omega)]
      congr 2
      omega
    · rw [if_neg h1, List.getElem?_set]
      by_cases h2 : off + k = q
      · rw [if_pos h2, if_pos (by rw [mirK_length]; omega), if_pos (by omega)]
        congr 2
        omega
      · rw [if_neg h2, mirK_get off m k xs q h]
        by_cases h3 : off ≤ q ∧ q < off + m ∧ (q < off + k ∨ off + m ≤ q + k)
        · rw [if_pos h3, if_pos (by omega)]
        · rw [if_neg h3, if_neg (by omega)]
  · rw [List.getElem?_eq_none (by simp [mirK_length]; omega), List.getElem?_eq_none (by rw [mirK_length]; omega)]
theorem mirK_end (off m k : Nat) (xs : List Int) (hk : m ≤ k + k + 1) (hkm : k ≤ m) : mirK off m k xs = mirK off m m xs := by
  apply List.ext_getElem?
  intro q
  by_cases h : q < xs.length
  · rw [mirK_get off m k xs q h, mirK_get off m m xs q h]
    by_cases h3 : off ≤ q ∧ q < off + m ∧ (q < off + k ∨ off + m ≤ q + k)
    · rw [if_pos h3, if_pos (by omega)]
    · rw [if_neg h3]
      by_cases h4 : off ≤ q ∧ q < off + m
      · rw [if_pos (by omega)]
        congr 2
        omega
      · rw [if_neg (by omega)]
  · rw [List.getElem?_eq_none (by rw [mirK_length]; omega), List.getElem?_eq_none (by rw [mirK_length]; omega)]
theorem grown_set {w w1 : World} {g : Nat} (h : w.grownBy w1 (some g)) (j : Nat) (u : Value) : w.grownBy (w1.setCell ⟨g, j, none⟩ u) (some g) :=
  ⟨h.os, h.tape, h.output, by simpa [World.setCell] using h.size, fun k hk hne => (Below.heap_setCell w1 _ u k (fun he => hne (by rw [he]))).trans (h.block k hk hne)⟩
theorem grown_drew {w w1 : World} {row : Option Nat} (h : w.grownBy w1 row) : w.grownBy w1.drew row := ⟨h.os, h.tape, h.output, h.size, h.block⟩
theorem grown_refl (w : World) (row : Option Nat) : w.grownBy w row := ⟨rfl, rfl, rfl, Nat.le_refl _, fun _ _ _ => rfl⟩
def rev_at.T3 : Bool × List (List Nat × List Nat) := (true, [([], []), ([], []), ([], []), ([], []), ([], []), ([], []), ([4, 5], [4, 5]), ([6], [6]), ([], []), ([], []), ([8, 9], [8, 9]), ([10], [10]), ([0, 1, 0, 1, 4, 5, 6, 7, 11], [0, 1]), ([12, 7, 0, 1, 4, 5, 6, 7, 11], [7, 12]), ([2, 3, 0, 1, 2, 3, 4, 5, 6, 7, 8, 9, 10, 11, 12, 13], [2, 3]), ([14, 11, 13, 0, 1, 2, 3, 4, 5, 6, 7, 8, 9, 10, 11, 12, 13], [11, 14])])
def rev_at.B3 : List Nat := [0, 0, 0, 0, 0, 0, 48, 112, 0, 0, 768, 1792, 4083, 8179, 16383, 32767]
theorem rev_at.tab3 : rtab .any (opsOf Tryz.f108 3) = rev_at.T3 := by kernel_rfl
theorem rev_at.bits3 : waitsOk rev_at.T3.2 rev_at.B3 = true := by kernel_rfl
set_option maxHeartbeats 16000000 in
set_option maxRecDepth 100000 in
theorem Reverse_at (w : World) (base : Nat) (ok : Nat → Prop) (g n cap : Nat) (xs : List Int) (hr : (Kd.int .i64).R 3 w base ok (.slice (some ⟨g, 0, none⟩) n cap) xs) (off m c : Nat) (hm : off + m ≤ xs.length) (hmx : xs.length < 17592186044416) :
    Calls Tryz.prog 108 #[.slice (some ⟨g, off, none⟩) m c] w fun e w' => e = .returned (.tuple #[]) ∧ (Kd.int .i64).R 3 w' base ok (.slice (some ⟨g, 0, none⟩) n cap) (mirK off m m xs) ∧ w.grownBy w' (some g) := by
  have HR := Aside0.mk hr
  have HM := Aside0.mk (And.intro hm hmx)
  clear hr hm hmx
  have hn : Aside0 (n = xs.length) := ⟨(Kd.R_reads' HR.out).1⟩
  go_enter Tryz.func108, Tryz.ntmps108
  go_wp2
  go_loopg [2, 3] m (fun kq v2 v3 w' => ∃ (i j : Int), v2 = .int .i64 i ∧ v3 = .int .i64 j ∧ Aside0 (0 ≤ i ∧ i + kq = m ∧ i + j = (m : Int) - 1) ∧ Aside0 ((Kd.int .i64).R 3 w' base ok (.slice (some ⟨g, 0, none⟩) n cap) (mirK off m i.toNat xs)) ∧ Aside0 (w.grownBy w' (some g)))
  case atStart => exact ⟨0, (m : Int) - 1, rfl, by congr 1; have := HM.out; unfold wrap64; omega, ⟨by omega, by omega, by omega⟩, ⟨by rw [show (0 : Int).toNat = 0 from rfl, mirK_zero]; exact HR.out⟩, ⟨grown_refl _ _⟩⟩
  case round =>
    clear HR
    obtain ⟨i, j, rfl, rfl, HI, HR, HG⟩ := hrel
    by_cases hij : i < j
    · cases gk with
      | zero => exact absurd HI.out (by omega)
      | succ kq1 =>
      have hijb : decide (i < j) = true := decide_eq_true hij
      have h0 : 0 ≤ i := by have := HI.out; omega
      have h1 : i < (m : Int) := by have := HI.out; omega
      have h2 : 0 ≤ j := by omega
      have h3 : j < (m : Int) := by have := HI.out; omega
      have d0 : decide (0 ≤ i) = true := decide_eq_true h0
      have d1 : decide (i < (m : Int)) = true := decide_eq_true h1
      have d2 : decide (0 ≤ j) = true := decide_eq_true h2
      have d3 : decide (j < (m : Int)) = true := decide_eq_true h3
      have oi : ((off : Int) + i).toNat = off + i.toNat := by omega
      have oj : ((off : Int) + j).toNat = off + j.toNat := by omega
      obtain ⟨ci, fi⟩ := Kd.R_celln 0 HR.out ((off : Int) + i) (by omega) (by have := hn.out; have := HM.out; omega)
      obtain ⟨cj, fj⟩ := Kd.R_celln 0 HR.out ((off : Int) + j) (by omega) (by have := hn.out; have := HM.out; omega)
      rw [oi] at ci fi
      rw [oj] at cj fj
      have hJ : Aside0 (j.toNat = m - 1 - i.toNat ∧ (i + 1).toNat = i.toNat + 1 ∧ i.toNat + i.toNat + 1 < m) := ⟨by have := HI.out; omega, by omega, by have := HI.out; omega⟩
      have vi : rdOf 0 (mirK off m i.toNat xs) ((off : Int) + i) = xs.getD (off + i.toNat) 0 := by
        rw [show (off : Int) + i = ((off + i.toNat : Nat) : Int) by omega, mirK_rd _ _ _ _ _ (by have := HM.out; omega), if_neg (by have := hJ.out; omega)]
      have vj : rdOf 0 (mirK off m i.toNat xs) ((off : Int) + j) = xs.getD (off + j.toNat) 0 := by
        rw [show (off : Int) + j = ((off + j.toNat : Nat) : Int) by omega, mirK_rd _ _ _ _ _ (by have := HM.out; omega), if_neg (by have := hJ.out; omega)]
      rw [vi] at ci
      rw [vj] at cj
      have P1 := Kd.R_putg (Kd.R_drew HR.out) ((off : Int) + i) (xs.getD (off + j.toNat) 0)
      have P2 := Kd.R_putg P1.1 ((off : Int) + j) (xs.getD (off + i.toNat) 0)
      have cj2 := (Kd.R_celln 0 P1.1 ((off : Int) + j) (by omega) (by have := hn.out; have := HM.out; omega))
      rw [oi] at P1 cj2
      rw [oi, oj] at P2
      rw [oj] at cj2
      have c2 := cj2.1
      have f2 := cj2.2
      have PP := Aside0.mk P2.1
      clear P1 P2 vi vj oi oj cj2
      have hst := mirK_step off m i.toNat xs HM.out.1 hJ.out.2.2
      rw [← hJ.out.1] at hst
      have HST := Aside0.mk hst
      clear hst
      generalize xs.getD (off + i.toNat) 0 = vi at *
      generalize xs.getD (off + j.toNat) 0 = vj at *
      have hw : Aside0 (wrap64 (i + 1) = i + 1 ∧ wrap64 (j - 1) = j - 1) := ⟨by have := HI.out; have := HM.out; unfold wrap64; omega, by have := HI.out; have := HM.out; unfold wrap64; omega⟩
      replace h0 := eq_true h0
      replace h1 := eq_true h1
      replace h2 := eq_true h2
      replace h3 := eq_true h3
      clear hij
      go_wp2
      refine start_ (n := 16) (S := fun w' => w'.cell? ⟨g, off + i.toNat, none⟩ = some (.int .i64 vi) ∧ w'.cell? ⟨g, off + j.toNat, none⟩ = some (.int .i64 vj)) (ds := [13, 15]) #[false, false, false, false, false, false, false, false, false, false, false, false, false, false, false, false] (by kernel_rfl) rfl rfl ⟨ci, cj⟩ (fun hHeld => ?_); refine with_tabW rev_at.tab3 rev_at.bits3 (fun HT_ HW_ => ?_)
      replace ci : wr.drew.cell? ⟨g, off + i.toNat, none⟩ = some (.int .i64 vi) := ci
      replace cj : wr.drew.cell? ⟨g, off + j.toNat, none⟩ = some (.int .i64 vj) := cj
      replace fi : wr.drew.frozen? ⟨g, off + i.toNat, none⟩ = false := fi
      clear fj
      have HG2 := Aside0.mk (grown_drew HG.out)
      clear HG HR
      generalize wr.drew = wd at PP HG2 ci cj fi c2 f2 hHeld ⊢
      refine pure_ (i := 0) (N := some 14) (v := ?_) (a' := ?_) #[true, false, false, false, false, false, false, false, false, false, false, false, false, false, false, false] rfl rfl (any_of HT_.out (by kernel_rfl)) (fun _ _ _ h => h) (Or.inl ⟨by rfl, ?_⟩) ?_ ?_
      rotate_left
      · intro w'
        go_simp
        with_reducible rfl
      rotate_left
      · simp only [Act.put, List.setIfInBounds_toArray, List.set_cons_zero, List.set_cons_succ, i64_w, i32_w]
        rfl
      refine pure_ (i := 1) (N := some 15) (v := ?_) (a' := ?_) #[true, true, false, false, false, false, false, false, false, false, false, false, false, false, false, false] rfl rfl (any_of HT_.out (by kernel_rfl)) (fun _ _ _ h => h) (Or.inl ⟨by rfl, ?_⟩) ?_ ?_
      rotate_left
      · intro w'
        go_simp
        with_reducible rfl
      rotate_left
      · simp only [Act.put, List.setIfInBounds_toArray, List.set_cons_zero, List.set_cons_succ, i64_w, i32_w]
        rfl
      refine pure_ (i := 2) (N := some 16) (v := ?_) (a' := ?_) #[true, true, true, false, false, false, false, false, false, false, false, false, false, false, false, false] rfl rfl (any_of HT_.out (by kernel_rfl)) (fun _ _ _ h => h) (Or.inl ⟨by rfl, ?_⟩) ?_ ?_
      rotate_left
      · intro w'
        go_simp
        with_reducible rfl
      rotate_left
      · simp only [Act.put, List.setIfInBounds_toArray, List.set_cons_zero, List.set_cons_succ, i64_w, i32_w]
        rfl
      refine pure_ (i := 3) (N := some 17) (v := ?_) (a' := ?_) #[true, true, true, true, false, false, false, false, false, false, false, false, false, false, false, false] rfl rfl (any_of HT_.out (by kernel_rfl)) (fun _ _ _ h => h) (Or.inl ⟨by rfl, ?_⟩) ?_ ?_
      rotate_left
      · intro w'
        go_simp
        with_reducible rfl
      rotate_left
      · simp only [Act.put, List.setIfInBounds_toArray, List.set_cons_zero, List.set_cons_succ, i64_w, i32_w]
        rfl
      refine pure_ (i := 4) (N := some 18) (v := ?_) (a' := ?_) #[true, true, true, true, true, false, false, false, false, false, false, false, false, false, false, false] rfl rfl (any_of HT_.out (by kernel_rfl)) (fun _ _ _ h => h) (Or.inl ⟨by rfl, ?_⟩) ?_ ?_
      rotate_left
      · intro w'
        go_simp
        with_reducible rfl
      rotate_left
      · simp only [Act.put, List.setIfInBounds_toArray, List.set_cons_zero, List.set_cons_succ, i64_w, i32_w]
        rfl
      refine pure_ (i := 5) (N := some 19) (v := ?_) (a' := ?_) #[true, true, true, true, true, true, false, false, false, false, false, false, false, false, false, false] rfl rfl (any_of HT_.out (by kernel_rfl)) (fun _ _ _ h => h) (Or.inl ⟨by rfl, ?_⟩) ?_ ?_
      rotate_left
      · intro w'
        go_simp
        with_reducible rfl
      rotate_left
      · simp only [Act.put, List.setIfInBounds_toArray, List.set_cons_zero, List.set_cons_succ, i64_w, i32_w]
        rfl
      refine pure_ (i := 6) (N := some 20) (v := ?_) (a' := ?_) #[true, true, true, true, true, true, true, false, false, false, false, false, false, false, false, false] rfl rfl (any_of HT_.out (by kernel_rfl)) (fun _ _ _ h => h) (Or.inl ⟨by rfl, ?_⟩) ?_ ?_
      rotate_left
      · intro w'
        go_simp
        with_reducible rfl
      rotate_left
      · simp only [Act.put, List.setIfInBounds_toArray, List.set_cons_zero, List.set_cons_succ, i64_w, i32_w]
        rfl
      refine pure_ (i := 8) (N := some 22) (v := ?_) (a' := ?_) #[true, true, true, true, true, true, true, false, true, false, false, false, false, false, false, false] rfl rfl (any_of HT_.out (by kernel_rfl)) (fun _ _ _ h => h) (Or.inl ⟨by rfl, ?_⟩) ?_ ?_
      rotate_left
      · intro w'
        go_simp
        with_reducible rfl
      rotate_left
      · simp only [Act.put, List.setIfInBounds_toArray, List.set_cons_zero, List.set_cons_succ, i64_w, i32_w]
        rfl
      refine pure_ (i := 9) (N := some 23) (v := ?_) (a' := ?_) #[true, true, true, true, true, true, true, false, true, true, false, false, false, false, false, false] rfl rfl (any_of HT_.out (by kernel_rfl)) (fun _ _ _ h => h) (Or.inl ⟨by rfl, ?_⟩) ?_ ?_
      rotate_left
      · intro w'
        go_simp
        with_reducible rfl
      rotate_left
      · simp only [Act.put, List.setIfInBounds_toArray, List.set_cons_zero, List.set_cons_succ, i64_w, i32_w]
        rfl
      refine pure_ (i := 10) (N := some 24) (v := ?_) (a' := ?_) #[true, true, true, true, true, true, true, false, true, true, true, false, false, false, false, false] rfl rfl (any_of HT_.out (by kernel_rfl)) (fun _ _ _ h => h) (Or.inl ⟨by rfl, ?_⟩) ?_ ?_
      rotate_left
      · intro w'
        go_simp
        with_reducible rfl
      rotate_left
      · simp only [Act.put, List.setIfInBounds_toArray, List.set_cons_zero, List.set_cons_succ, i64_w, i32_w]
        rfl
      refine take_ (i := 7) (N := some 21) (v := ?_) (a' := ?_) #[true, true, true, true, true, true, true, true, true, true, true, false, false, false, false, false] rfl rfl (take_ofW HT_.out HW_.out (by kernel_rfl)) (fun _ _ _ h => h) (Or.inl ⟨by rfl, ?_⟩) hHeld ?_ ?_
      rotate_left
      · rintro w' ⟨s0, s1⟩
        go_simp
        with_reducible rfl
      rotate_left
      · simp only [Act.put, List.setIfInBounds_toArray, List.set_cons_zero, List.set_cons_succ, i64_w, i32_w]
        rfl
      refine take_ (i := 11) (N := some 25) (v := ?_) (a' := ?_) #[true, true, true, true, true, true, true, true, true, true, true, true, false, false, false, false] rfl rfl (take_ofW HT_.out HW_.out (by kernel_rfl)) (fun _ _ _ h => h) (Or.inl ⟨by rfl, ?_⟩) hHeld ?_ ?_
      rotate_left
      · rintro w' ⟨s0, s1⟩
        go_simp
        with_reducible rfl
      rotate_left
      · simp only [Act.put, List.setIfInBounds_toArray, List.set_cons_zero, List.set_cons_succ, i64_w, i32_w]
        rfl
      refine pure_ (i := 12) (N := some 26) (v := ?_) (a' := ?_) #[true, true, true, true, true, true, true, true, true, true, true, true, true, false, false, false] rfl rfl (any_of HT_.out (by kernel_rfl)) (fun _ _ _ h => h) (Or.inl ⟨by rfl, ?_⟩) ?_ ?_
      rotate_left
      · intro w'
        go_simp
        with_reducible rfl
      rotate_left
      · simp only [Act.put, List.setIfInBounds_toArray, List.set_cons_zero, List.set_cons_succ, i64_w, i32_w]
        rfl
      refine last_ (i := 13) (N := none) #[true, true, true, true, true, true, true, true, true, true, true, true, true, true, false, false] rfl rfl (one_of HT_.out (by kernel_rfl)) (by decide) (fun K hK => ?_)
      refine skip_ (w1 := ?_) (by rfl) rfl ?_ ?_
      rotate_left
      · go_simp
        rfl
      refine hK.out _ _ ?_
      clear hK K
      refine pure_ (i := 14) (N := some 27) (v := ?_) (a' := ?_) #[true, true, true, true, true, true, true, true, true, true, true, true, true, true, true, false] rfl rfl (any_of HT_.out (by kernel_rfl)) (fun _ _ _ h => h) (Or.inl ⟨by rfl, ?_⟩) ?_ ?_
      rotate_left
      · intro w'
        go_simp
        with_reducible rfl
      rotate_left
      · simp only [Act.put, List.setIfInBounds_toArray, List.set_cons_zero, List.set_cons_succ, i64_w, i32_w]
        rfl
      refine last_ (i := 15) (N := none) #[true, true, true, true, true, true, true, true, true, true, true, true, true, true, true, true] rfl rfl (one_of HT_.out (by kernel_rfl)) (by decide) (fun K hK => ?_)
      refine skip_ (w1 := ?_) (by rfl) rfl ?_ ?_
      rotate_left
      · go_simp
        rfl
      refine hK.out _ _ ?_
      clear hK K
      refine done_ (done_of HT_.out (by kernel_rfl)) ?_
      go_wp2
      go_roundg kq1
      case measure => omega
      case rel => exact ⟨i + 1, j - 1, congrArg _ hw.out.1, congrArg _ hw.out.2, ⟨by have := HI.out; omega, by have := HI.out; omega, by have := HI.out; omega⟩, ⟨by rw [hJ.out.2.1, ← HST.out]; exact PP.out⟩, ⟨grown_set (grown_set HG2.out _ _) _ _⟩⟩
    · have hijb : decide (i < j) = false := decide_eq_false hij
      have hend := mirK_end off m i.toNat xs (by have := HI.out; omega) (by have := HI.out; omega)
      have HE := Aside0.mk hend
      clear hend hij
      go_wp2
      first | go_end0 | ((try simp only [Exit.inBlock, Exit.then]); refine bodyPost_ret (results_none rfl _ _ _) rfl ?_)
      exact ⟨rfl, by rw [← HE.out]; exact HR.out, HG.out⟩
end Go.Proofs.YtphkionjjhhhlaaGreat.Q
end
section
namespace Go.Proofs.YtphkionjjhhhlaaGreat.Q
open Go.RowKit Go.Proofs.YtphkionjjhhhlaaGreatW.PrintWords Go.Proofs.YtphkionjjhhhlaaGreatW.PrintLast Go.Proofs.YtphkionjjhhhlaaGreatW.PrintMore
def item_blank.l0 : Nat → Int → Int → Int → Int → Int → Int → Int → List (List Int) → Option (Int × Int × Int × (List (List Int)))
  | 0, _, _, _, _, _, _, _, _ => none
  | k + 1, x0, x1, x14, x15, x105000, x105001, x105002, x105003 => if x15 < x14 then (if 0 ≤ (wrap64 (x0 * x1)) then (if (wrap64 (x0 * x1) : Int).toNat ≤ 35184372088832 then (if x105003.length < 5864062014805 then (item_blank.l0 k x0 x1 x14 (wrap64 (x15 + 1)) x105000 x105001 x105002 (x105003 ++ [(List.replicate (wrap64 (x0 * x1) : Int).toNat 0)])) else (none)) else (none)) else (none)) else (some (x105000, x105001, x105002, x105003))
def item_blank.f (k : Nat) (a0 : Int) (a1 : Int) (a2 : Int) (a3 : Int) : Option (Int × Int × Int × (List (List Int))) := item_blank.l0 k a0 a1 a3 0 a0 a1 a2 ([] : List (List Int))
def item_blank.T4 : Bool × List (List Nat × List Nat) := (true, [([], []), ([0], [0]), ([], []), ([], []), ([2, 3], [2, 3]), ([4, 4], [4]), ([5], [5]), ([1, 6], [1, 6]), ([0, 1, 2, 3, 4, 5, 6, 7], []), ([8, 7, 7, 0, 1, 2, 3, 4, 5, 6, 7], [7, 8])])
def item_blank.B4 : List Nat := [0, 1, 0, 0, 12, 28, 60, 127, 255, 511]
theorem item_blank.tab4 : rtab .any (opsOf Tryz.f107 4) = item_blank.T4 := by kernel_rfl
theorem item_blank.bits4 : waitsOk item_blank.T4.2 item_blank.B4 = true := by kernel_rfl
set_option maxHeartbeats 8000000 in
set_option maxRecDepth 100000 in
theorem item_blank.calls (k : Nat) (a0 : Int) (a1 : Int) (a2 : Int) (a3 : Int) (r1 : Int) (r2 : Int) (r3 : Int) (r4 : List (List Int)) (w : World) (h : item_blank.f k a0 a1 a2 a3 = some (r1, r2, r3, r4)) :
    Calls Tryz.prog 107 #[.int .i64 a0, .int .i64 a1, .int .i64 a2, .int .i64 a3] w fun e w' => ∃ v3_ : Value, e = .returned (.agg #[.int .i64 r1, .int .i64 r2, .int .i64 r3, v3_]) ∧ Kd.S (Kd.slice 3 (Kd.int .i64)) 39 w' w.heap.size (fun _ => True) v3_ r4 ∧ Below w.heap.size w w' := by
  have hu24 := Tryz.underlying24
  have HB := Aside0.mk (Below.refl w.heap.size w)
  have H : (item_blank.l0 k a0 a1 a3 0 a0 a1 a2 ([] : List (List Int))) = some (r1, r2, r3, r4) := h
  clear h
  have H' := Aside0.mk H
  clear H
  go_enter Tryz.func107, Tryz.ntmps107
  go_wp2_with (first | ((with_reducible refine gate_dst (N := 8) rfl ?_); refine box_event ?hg (N := 8) ?hd (cs := #[.int .i64 0, .int .i64 0, .int .i64 0, .slice none 0 0]) (t := 24) ?hr ?_; (case hd => rfl); (case hg => rfl); (case hr => first | (go_simp; done) | (go_simp; rfl)); intro gb103 hg w5 hbox hb; have n0_ := Aside0.mk (below_step (by repeat (first | (with_reducible first | exact HB.out | apply below_alloc | apply pw_below_drewN | apply below_drew1) | exact HB.out)) hb); have n1_ := Aside0.mk (hbox); have n2_ := Aside0.mk ((by rw [hg]; exact (below_size (by repeat (first | (with_reducible first | exact HB.out | apply below_alloc | apply pw_below_drewN | apply below_drew1) | exact HB.out))) : w.heap.size ≤ gb103)); have n3_ := Aside0.mk ((by rw [hg]; exact (below_size (by repeat (first | (with_reducible first | exact HB.out | apply below_alloc | apply pw_below_drewN | apply below_drew1) | exact HB.out))) : w.heap.size ≤ gb103)); clear HB; have HB := n0_; have BK103 := n1_; have GW103 := n2_; have GE103 := n3_; clear n0_ n1_ n2_ n3_; clear hb hbox hg) | ((with_reducible refine gate_dst (N := 9) rfl ?_); refine box_event ?hg (N := 9) ?hd (cs := #[.int .i64 0, .int .i64 0, .int .i64 0, .slice none 0 0]) (t := 24) ?hr ?_; (case hd => rfl); (case hg => rfl); (case hr => first | (go_simp; done) | (go_simp; rfl)); intro gb104 hg w6 hbox hb; have n0_ := Aside0.mk (blk_below (g := gb103) (o := .cells #[.int .i64 0, .int .i64 0, .int .i64 0, .slice none 0 0] 24 (0, 0)) (by (with_reducible repeat (first | refine blk_drewN ?_ _ | refine blk_drew ?_ | refine blk_alloc ?_ _)); exact BK103.out) hb); have n1_ := Aside0.mk (below_step (by repeat (first | (with_reducible first | exact HB.out | apply below_alloc | apply pw_below_drewN | apply below_drew1 | refine below_set ?_ GE103.out) | exact HB.out)) hb); have n2_ := Aside0.mk (hbox); have n3_ := Aside0.mk ((by rw [hg]; exact (below_size (by repeat (first | (with_reducible first | exact HB.out | apply below_alloc | apply pw_below_drewN | apply below_drew1 | refine below_set ?_ GE103.out) | exact HB.out))) : w.heap.size ≤ gb104)); have n4_ := Aside0.mk ((by rw [hg]; exact (below_size (by repeat (first | (with_reducible first | exact HB.out | apply below_alloc | apply pw_below_drewN | apply below_drew1 | refine below_set ?_ GE103.out) | exact HB.out))) : w.heap.size ≤ gb104)); have n5_ := Aside0.mk ((by rw [hg]; exact Nat.ne_of_lt (blk_lt (g := gb103) (o := .cells #[.int .i64 0, .int .i64 0, .int .i64 0, .slice none 0 0] 24 (0, 0)) (by (with_reducible repeat (first | refine blk_drewN ?_ _ | refine blk_drew ?_ | refine blk_alloc ?_ _)); exact BK103.out)) : gb103 ≠ gb104)); have n6_ := Aside0.mk ((by rw [hg]; exact Nat.ne_of_gt (blk_lt (g := gb103) (o := .cells #[.int .i64 0, .int .i64 0, .int .i64 0, .slice none 0 0] 24 (0, 0)) (by (with_reducible repeat (first | refine blk_drewN ?_ _ | refine blk_drew ?_ | refine blk_alloc ?_ _)); exact BK103.out)) : gb104 ≠ gb103)); clear BK103; clear HB; have BK103 := n0_; have HB := n1_; have BK104 := n2_; have GW104 := n3_; have GE104 := n4_; have NB103_104 := n5_; have NB104_103 := n6_; clear n0_ n1_ n2_ n3_ n4_ n5_ n6_; clear hb hbox hg; have hnb7 := NB104_103.out; have hnc7 := NB103_104.out; have hcz8_0 : w6.cell? ⟨gb104, 0, none⟩ = some (.int .i64 0) := (blk_cell BK104.out 0).trans rfl; have hcz8_1 : w6.cell? ⟨gb104, 1, none⟩ = some (.int .i64 0) := (blk_cell BK104.out 1).trans rfl; have hcz8_2 : w6.cell? ⟨gb104, 2, none⟩ = some (.int .i64 0) := (blk_cell BK104.out 2).trans rfl; have hcz8_3 : w6.cell? ⟨gb104, 3, none⟩ = some (.slice none 0 0) := (blk_cell BK104.out 3).trans rfl; have hfz8_0 := blk_frozen BK104.out 0; have hfz8_1 := blk_frozen BK104.out 1; have hfz8_2 := blk_frozen BK104.out 2; have hfz8_3 := blk_frozen BK104.out 3))
  go_loopg [15] k (fun kq v15 w' => ∃ (x15_1 : Int) (x105003_1 : List (List Int)) (u105003 : Value), v15 = .int .i64 x15_1 ∧ Aside0 (item_blank.l0 kq a0 a1 a3 x15_1 a0 a1 a2 x105003_1 = some (r1, r2, r3, r4)) ∧ Aside0 (kq ≤ k) ∧ Aside0 (Kd.S (Kd.slice 3 (Kd.int .i64)) 39 w' w.heap.size (fun _ => True) u105003 x105003_1) ∧ Aside0 (w'.heap[gb103]? = some (.cells #[.int .i64 0, .int .i64 0, .int .i64 0, (.slice none 0 0)] 24 (0, 0))) ∧ Aside0 (w'.heap[gb104]? = some (.cells #[.int .i64 a0, .int .i64 a1, .int .i64 a2, u105003] 24 (0, 0))) ∧ Aside0 (Below w.heap.size w w'))
  case atStart => exact ⟨(0), (([] : List (List Int))), (.slice none 0 0), (by first | rfl | (simp; done) | (simp [*]; done)), H', ⟨Nat.le_refl _⟩, ⟨by first | exact Kd.S_nil _ _ _ _ _ | exact Kd.N_nil _ _ _ _ _ | exact Kd.V_nil _ _ _ _ _ | exact Kd.Q_nil _ _ _ _ _ | exact Kd.R_nil _ _ _ _ _⟩, ⟨by (with_reducible repeat (first | refine blk_drewN ?_ _ | refine blk_drew ?_ | refine blk_alloc ?_ _)); refine blk_far ?_ NB103_104.out _; (with_reducible repeat (first | refine blk_drewN ?_ _ | refine blk_drew ?_ | refine blk_alloc ?_ _)); refine blk_far ?_ NB103_104.out _; (with_reducible repeat (first | refine blk_drewN ?_ _ | refine blk_drew ?_ | refine blk_alloc ?_ _)); refine blk_far ?_ NB103_104.out _; (with_reducible repeat (first | refine blk_drewN ?_ _ | refine blk_drew ?_ | refine blk_alloc ?_ _)); refine blk_far ?_ NB103_104.out _; (with_reducible repeat (first | refine blk_drewN ?_ _ | refine blk_drew ?_ | refine blk_alloc ?_ _)); exact BK103.out⟩, ⟨by (with_reducible repeat (first | refine blk_drewN ?_ _ | refine blk_drew ?_ | refine blk_alloc ?_ _)); refine blk_put (cs := #[.int .i64 a0, .int .i64 a1, .int .i64 a2, .slice none 0 0]) ?_ 3 _ rfl; (with_reducible repeat (first | refine blk_drewN ?_ _ | refine blk_drew ?_ | refine blk_alloc ?_ _)); refine blk_put (cs := #[.int .i64 a0, .int .i64 a1, .int .i64 0, .slice none 0 0]) ?_ 2 _ rfl; (with_reducible repeat (first | refine blk_drewN ?_ _ | refine blk_drew ?_ | refine blk_alloc ?_ _)); refine blk_put (cs := #[.int .i64 a0, .int .i64 0, .int .i64 0, .slice none 0 0]) ?_ 1 _ rfl; (with_reducible repeat (first | refine blk_drewN ?_ _ | refine blk_drew ?_ | refine blk_alloc ?_ _)); refine blk_put (cs := #[.int .i64 0, .int .i64 0, .int .i64 0, .slice none 0 0]) ?_ 0 _ rfl; (with_reducible repeat (first | refine blk_drewN ?_ _ | refine blk_drew ?_ | refine blk_alloc ?_ _)); exact BK104.out⟩, ⟨by repeat (first | (with_reducible first | exact HB.out | apply below_alloc | apply pw_below_drewN | apply below_drew1 | refine below_set ?_ GE103.out | refine below_set ?_ GE104.out) | exact HB.out)⟩⟩
  case round =>
    clear H'
    try clear c1
    try clear p2
    try clear c7
    try clear hcz8_0
    try clear hcz8_1
    try clear hcz8_2
    try clear hcz8_3
    try clear hfz8_0
    try clear hfz8_1
    try clear hfz8_2
    try clear hfz8_3
    obtain ⟨x15_1, x105003_1, u105003, rfl, HA, HK1, HO_105003, BK103, BK104, HB⟩ := hrel
    cases gk with
    | zero => exact absurd HA.out (by simp [item_blank.l0])
    | succ k1 =>
      have H := HA.out
      clear HA
      simp only [item_blank.l0] at H
      by_cases c9 : x15_1 < a3
      · rw [if_pos c9] at H
        have c9b0 : decide (x15_1 < a3) = true := decide_eq_true c9
        clear c9
        obtain ⟨ji10, hji10⟩ : ∃ j_ : Int, (wrap64 (a0 * a1)) = j_ := ⟨_, rfl⟩
        replace H : (if 0 ≤ (ji10) then (if (ji10 : Int).toNat ≤ 35184372088832 then (if x105003_1.length < 5864062014805 then (item_blank.l0 k1 a0 a1 a3 (wrap64 (x15_1 + 1)) a0 a1 a2 (x105003_1 ++ [(List.replicate (ji10 : Int).toNat 0)])) else (none)) else (none)) else (none)) = some (r1, r2, r3, r4) := by first | (rw [hji10] at H; exact H) | (simp only [hji10] at H ⊢; exact H)
        have hji10w : (IntKind.i64.wrap (a0 * a1)) = ji10 := (i64_w _).trans hji10
        by_cases c11 : 0 ≤ (ji10)
        · rw [if_pos c11] at H
          have c11b0 := eq_true c11
          have c11b1 : decide (0 ≤ (ji10)) = true := decide_eq_true c11
          clear c11
          by_cases c12 : (ji10 : Int).toNat ≤ 35184372088832
          · rw [if_pos c12] at H
            have c12b0 := eq_true c12
            have c12b1 : decide ((ji10 : Int).toNat ≤ 35184372088832) = true := decide_eq_true c12
            clear c12
            obtain ⟨y105, hy105⟩ : ∃ y_ : List Int, y_ = (List.replicate (ji10 : Int).toNat 0) := ⟨_, rfl⟩
            replace H : (if x105003_1.length < 5864062014805 then (item_blank.l0 k1 a0 a1 a3 (wrap64 (x15_1 + 1)) a0 a1 a2 (x105003_1 ++ [y105])) else (none)) = some (r1, r2, r3, r4) := by first | (rw [hy105]; with_reducible exact H) | (have H2_ := (Option.bind_some _ _).symm.trans H; rw [hy105]; with_reducible exact H2_) | (have H2_ := (Option.bind_some _ _).symm.trans H; with_reducible exact H2_) | with_reducible exact H | (rw [hy105]; exact H) | exact H
            have Ny105 := Aside0.mk hy105
            clear hy105
            by_cases c13 : x105003_1.length < 5864062014805
            · rw [if_pos c13] at H
              have LMc13 := Aside0.mk c13
              clear c13
              obtain ⟨y108, hy108⟩ : ∃ y_ : List (List Int), y_ = (x105003_1 ++ [y105]) := ⟨_, rfl⟩
              replace H : (item_blank.l0 k1 a0 a1 a3 (wrap64 (x15_1 + 1)) a0 a1 a2 y108) = some (r1, r2, r3, r4) := by first | (rw [hy108]; with_reducible exact H) | (have H2_ := (Option.bind_some _ _).symm.trans H; rw [hy108]; with_reducible exact H2_) | (have H2_ := (Option.bind_some _ _).symm.trans H; with_reducible exact H2_) | with_reducible exact H | (rw [hy108]; exact H) | exact H
              have Ny108 := Aside0.mk hy108
              clear hy108
              have H' := Aside0.mk H
              clear H
              try go_wp2
              have n0_ := Aside0.mk (Kd.S_drew HO_105003.out)
              have n1_ := Aside0.mk (blk_drew BK103.out)
              have n2_ := Aside0.mk (blk_drew BK104.out)
              have n3_ := Aside0.mk (below_drew1 HB.out)
              clear HO_105003
              clear BK103
              clear BK104
              clear HB
              have HO_105003 := n0_
              have BK103 := n1_
              have BK104 := n2_
              have HB := n3_
              clear n0_ n1_ n2_ n3_
              refine start_ (n := 10) (S := fun w' => w'.cell? ⟨gb104, 0, none⟩ = some (.int .i64 a0) ∧ w'.cell? ⟨gb104, 1, none⟩ = some (.int .i64 a1) ∧ w'.cell? ⟨gb104, 2, none⟩ = some (.int .i64 a2) ∧ w'.cell? ⟨gb104, 3, none⟩ = some (u105003)) (ds := [9]) #[false, false, false, false, false, false, false, false, false, false] (by kernel_rfl) rfl rfl ⟨(blk_cell BK104.out 0).trans rfl, (blk_cell BK104.out 1).trans rfl, (blk_cell BK104.out 2).trans rfl, (blk_cell BK104.out 3).trans rfl⟩ (fun hHeld => ?_); refine with_tabW item_blank.tab4 item_blank.bits4 (fun HT_ HW_ => ?_)
              generalize wr.drew = w14 at HO_105003 BK103 BK104 HB hHeld ⊢
              refine pure_ (i := 0) (N := some 17) (v := ?_) (a' := ?_) #[true, false, false, false, false, false, false, false, false, false] rfl rfl (any_of HT_.out (by kernel_rfl)) (fun _ _ _ h => h) (Or.inl ⟨by rfl, ?_⟩) ?_ ?_
              rotate_left
              · intro w'
                go_simp
                with_reducible rfl
              rotate_left
              · simp only [Act.put, List.setIfInBounds_toArray, List.set_cons_zero, List.set_cons_succ, i64_w, i32_w]
                rfl
              refine pure_ (i := 2) (N := some 19) (v := ?_) (a' := ?_) #[true, false, true, false, false, false, false, false, false, false] rfl rfl (any_of HT_.out (by kernel_rfl)) (fun _ _ _ h => h) (Or.inl ⟨by rfl, ?_⟩) ?_ ?_
              rotate_left
              · intro w'
                go_simp
                with_reducible rfl
              rotate_left
              · simp only [Act.put, List.setIfInBounds_toArray, List.set_cons_zero, List.set_cons_succ, i64_w, i32_w]
                rfl
              refine pure_ (i := 3) (N := some 20) (v := ?_) (a' := ?_) #[true, false, true, true, false, false, false, false, false, false] rfl rfl (any_of HT_.out (by kernel_rfl)) (fun _ _ _ h => h) (Or.inl ⟨by rfl, ?_⟩) ?_ ?_
              rotate_left
              · intro w'
                go_simp
                with_reducible rfl
              rotate_left
              · simp only [Act.put, List.setIfInBounds_toArray, List.set_cons_zero, List.set_cons_succ, i64_w, i32_w]
                rfl
              refine pure_ (i := 4) (N := some 21) (v := ?_) (a' := ?_) #[true, false, true, true, true, false, false, false, false, false] rfl rfl (any_of HT_.out (by kernel_rfl)) (fun _ _ _ h => h) (Or.inl ⟨by rfl, ?_⟩) ?_ ?_
              rotate_left
              · intro w'
                go_simp
                with_reducible rfl
              rotate_left
              · simp only [Act.put, List.setIfInBounds_toArray, List.set_cons_zero, List.set_cons_succ, i64_w, i32_w]
                rfl
              refine take_ (i := 1) (N := some 18) (v := ?_) (a' := ?_) #[true, true, true, true, true, false, false, false, false, false] rfl rfl (take_ofW HT_.out HW_.out (by kernel_rfl)) (fun _ _ _ h => h) (Or.inl ⟨by rfl, ?_⟩) hHeld ?_ ?_
              rotate_left
              · rintro w' ⟨s0, s1, s2, s3⟩
                go_simp
                with_reducible rfl
              rotate_left
              · simp only [Act.put, List.setIfInBounds_toArray, List.set_cons_zero, List.set_cons_succ, i64_w, i32_w]
                rfl
              refine one_ (i := 5) (N := some 22) #[true, true, true, true, true, true, false, false, false, false] rfl rfl (one_of HT_.out (by kernel_rfl)) (by decide) (fun K hK => ?_)
              refine Kd.R_make_step (Kd.int .i64) _ 3 (by rfl) (N := 22) rfl 39 _ _ rfl ji10 rfl rfl Tryz.underlying39 (.int .i64 0) 8 info3 rfl (by decide) (by omega) 0 (ok := fun _ => True) (okp := fun _ => True) rfl (fun _ hk => hk) trivial (of_decide_eq_true (by first | (with_reducible assumption) | assumption)) (Nat.le_trans (Nat.mul_le_mul_right _ (of_decide_eq_true (by first | (with_reducible assumption) | assumption) : ji10.toNat ≤ 35184372088832)) (by omega)) (Below.refl _ _) (Nat.le_refl _) ?_
              intro v106 w15 ho16 hb hg_ hnew_
              clear hg_ hnew_
              (first | rw [← Ny105.out] at ho16 | (simp only [Int.reduceToNat] at ho16; rw [← Ny105.out] at ho16))
              have n0_ := Aside0.mk (Kd.S_elder' (by (with_reducible repeat (first | apply Kd.S_alloc | apply Kd.S_drewN | apply Kd.S_drew)); exact HO_105003.out) (Kd.R_base ho16) hb)
              have n1_ := Aside0.mk (Kd.R_lower ho16 (below_size (by repeat (first | (with_reducible first | exact HB.out | apply below_alloc | apply pw_below_drewN | apply below_drew1 | refine below_set ?_ GE103.out | refine below_set ?_ GE104.out) | exact HB.out))))
              have n2_ := Aside0.mk (blk_below (g := gb103) (o := .cells #[.int .i64 0, .int .i64 0, .int .i64 0, .slice none 0 0] 24 (0, 0)) (by (with_reducible repeat (first | refine blk_drewN ?_ _ | refine blk_drew ?_ | refine blk_alloc ?_ _)); exact BK103.out) hb)
              have n3_ := Aside0.mk (blk_below (g := gb104) (o := .cells #[.int .i64 a0, .int .i64 a1, .int .i64 a2, u105003] 24 (0, 0)) (by (with_reducible repeat (first | refine blk_drewN ?_ _ | refine blk_drew ?_ | refine blk_alloc ?_ _)); exact BK104.out) hb)
              have n4_ := Aside0.mk (below_step (by repeat (first | (with_reducible first | exact HB.out | apply below_alloc | apply pw_below_drewN | apply below_drew1 | refine below_set ?_ GE103.out | refine below_set ?_ GE104.out) | exact HB.out)) hb)
              clear HO_105003
              clear BK103
              clear BK104
              clear HB
              have HO_105003 := n0_
              have HO107 := n1_
              have BK103 := n2_
              have BK104 := n3_
              have HB := n4_
              clear n0_ n1_ n2_ n3_ n4_
              clear hb ho16
              obtain ⟨Ao18, co18, eo18⟩ := Kd.R_slice HO107.out
              (first | subst eo18 | (injection eo18 with f1_ f2_ f3_; have f4_ := f1_.symm; have f5_ := f3_.symm; clear f1_ f2_ f3_; subst f4_; subst f5_))
              refine hK.out _ _ ⟨(blk_cell BK104.out 0).trans rfl, (blk_cell BK104.out 1).trans rfl, (blk_cell BK104.out 2).trans rfl, (blk_cell BK104.out 3).trans rfl⟩ (fun hHeld => ?_)
              clear hK K
              refine norm_ (a' := ?_) ?_ ?_
              rotate_left
              · show Act.put _ (some 22) _ = _
                simp only [Act.put, List.setIfInBounds_toArray, List.set_cons_zero, List.set_cons_succ, i64_w, i32_w]
                rfl
              refine one_ (i := 6) (N := some 23) #[true, true, true, true, true, true, true, false, false, false] rfl rfl (one_of HT_.out (by kernel_rfl)) (by decide) (fun K hK => ?_)
              refine value_ (w1 := ?_) (v := ?_) (by rfl) rfl ?_ ?_
              rotate_left 2
              · go_simp
                constructor
                · rfl
                · rfl
              refine hK.out _ _ ⟨(blk_cell (blk_alloc BK104.out _) 0).trans rfl, (blk_cell (blk_alloc BK104.out _) 1).trans rfl, (blk_cell (blk_alloc BK104.out _) 2).trans rfl, (blk_cell (blk_alloc BK104.out _) 3).trans rfl⟩ (fun hHeld => ?_)
              clear hK K
              refine norm_ (a' := ?_) ?_ ?_
              rotate_left
              · show Act.put _ (some 23) _ = _
                simp only [Act.put, List.setIfInBounds_toArray, List.set_cons_zero, List.set_cons_succ, i64_w, i32_w]
                rfl
              refine one_ (i := 7) (N := some 24) #[true, true, true, true, true, true, true, true, false, false] rfl rfl (one_of HT_.out (by kernel_rfl)) (by decide) (fun K hK => ?_)
              refine Kd.S_append_step (Kd.slice 3 (Kd.int .i64)) (w0 := w) w.heap.size (by rfl) (.tmp 18) (.tmp 23) 22 39 (.slice none 0 0) 24 rfl Tryz.underlying22 info39 rfl (by decide) (by omega) u105003 x105003_1 y105 [.slice Ao18 y105.length co18] (fun _ => True) (fun k_ => some k_ = (.slice Ao18 y105.length co18 : Value).ownBlock) rfl rfl ?aP (fun k_ hk_ => ((Kd.R_mono (ok' := fun k_ => ((fun _ => True)) k_ ∧ some k_ ≠ (u105003 : Value).ownBlock) (Kd.R_apart' (HO107.out) (Kd.S_typed HO_105003.out) (by decide)) (fun k_ hk => ⟨trivial, hk.2⟩))).1 k_ hk_.symm) ?aF ?aO ?aB ?aS ?aL ?_
              (case aP => exact Kd.M_row (Kd.R_mono (Kd.R_tight rfl (Kd.R_mono (ok' := fun k_ => ((fun _ => True)) k_ ∧ some k_ ≠ (u105003 : Value).ownBlock) (Kd.R_apart' (HO107.out) (Kd.S_typed HO_105003.out) (by decide)) (fun k_ hk => ⟨trivial, hk.2⟩))) (fun _ h_ => h_)))
              (case aB => exact (by repeat (first | (with_reducible first | exact HB.out | apply below_alloc | apply pw_below_drewN | apply below_drew1 | refine below_set ?_ GE103.out | refine below_set ?_ GE104.out) | exact HB.out)))
              (case aF => exact (fun _ _ => trivial))
              (case aO => exact (by (with_reducible repeat (first | apply Kd.S_alloc | apply Kd.S_drewN | apply Kd.S_drew)); exact Kd.S_mono HO_105003.out (fun k_ hk => ⟨trivial, fun e_ => hk.2 e_⟩)))
              (case aS => exact (below_size (by repeat (first | (with_reducible first | exact HB.out | apply below_alloc | apply pw_below_drewN | apply below_drew1 | refine below_set ?_ GE103.out | refine below_set ?_ GE104.out) | exact HB.out))))
              (case aL => have := LMc13.out; omega)
              intro v109 w17 ho hb hg hat
              rw [← Ny108.out] at ho
              have n0_ := Aside0.mk (blk_grown (g := gb103) (o := .cells #[.int .i64 0, .int .i64 0, .int .i64 0, .slice none 0 0] 24 (0, 0)) (by (with_reducible repeat (first | refine blk_drewN ?_ _ | refine blk_drew ?_ | refine blk_alloc ?_ _)); exact BK103.out) hg (Kd.S_ne HO_105003.out BK103.out (by decide)))
              have n1_ := Aside0.mk (blk_grown (g := gb104) (o := .cells #[.int .i64 a0, .int .i64 a1, .int .i64 a2, u105003] 24 (0, 0)) (by (with_reducible repeat (first | refine blk_drewN ?_ _ | refine blk_drew ?_ | refine blk_alloc ?_ _)); exact BK104.out) hg (Kd.S_ne HO_105003.out BK104.out (by decide)))
              have n2_ := Aside0.mk (hb)
              have n3_ := Aside0.mk (ho)
              clear BK103
              clear BK104
              clear HB
              clear HO_105003
              clear HO107
              have BK103 := n0_
              have BK104 := n1_
              have HB := n2_
              have HO110 := n3_
              clear n0_ n1_ n2_ n3_
              clear ho hb hg hat
              obtain ⟨Ao19, co19, eo19⟩ := Kd.S_slice HO110.out
              (first | subst eo19 | (injection eo19 with f1_ f2_ f3_; have f4_ := f1_.symm; have f5_ := f3_.symm; clear f1_ f2_ f3_; subst f4_; subst f5_))
              refine hK.out _ _ ⟨(blk_cell BK104.out 0).trans rfl, (blk_cell BK104.out 1).trans rfl, (blk_cell BK104.out 2).trans rfl, (blk_cell BK104.out 3).trans rfl⟩ (fun hHeld => ?_)
              clear hK K
              refine norm_ (a' := ?_) ?_ ?_
              rotate_left
              · show Act.put _ (some 24) _ = _
                simp only [Act.put, List.setIfInBounds_toArray, List.set_cons_zero, List.set_cons_succ, i64_w, i32_w]
                rfl
              refine pure_ (i := 8) (N := some 25) (v := ?_) (a' := ?_) #[true, true, true, true, true, true, true, true, true, false] rfl rfl (any_of HT_.out (by kernel_rfl)) (fun _ _ _ h => h) (Or.inl ⟨by rfl, ?_⟩) ?_ ?_
              rotate_left
              · intro w'
                go_simp
                with_reducible rfl
              rotate_left
              · simp only [Act.put, List.setIfInBounds_toArray, List.set_cons_zero, List.set_cons_succ, i64_w, i32_w]
                rfl
              refine last_ (i := 9) (N := none) #[true, true, true, true, true, true, true, true, true, true] rfl rfl (one_of HT_.out (by kernel_rfl)) (by decide) (fun K hK => ?_)
              have hs20 : w17.cell? ⟨gb104, 3, none⟩ = some (u105003) := (blk_cell BK104.out 3).trans rfl
              have hfs20 := blk_frozen BK104.out 3
              have hns20_0 := NB103_104.out
              have hms20_0 := NB104_103.out
              refine skip_ (w1 := ?_) (by rfl) rfl ?_ ?_
              rotate_left
              · go_simp
                rfl
              refine hK.out _ _ ?_
              clear hK K
              refine done_ (done_of HT_.out (by kernel_rfl)) ?_
              try go_wp2
              go_roundg k1
              case measure => have := HK1.out; omega
              case rel => exact ⟨(wrap64 (x15_1 + 1)), (y108), (.slice Ao19 y108.length co19), (by first | rfl | (simp; done) | (simp [*]; done)), H', ⟨by have := HK1.out; omega⟩, ⟨by (with_reducible repeat (first | apply Kd.S_alloc | apply Kd.S_drewN | apply Kd.S_drew)); exact Kd.S_mono (Kd.S_far (p := ⟨gb104, 3, none⟩) (Kd.S_types HO110.out BK104.out (by decide)) (fun _ hk => hk.2) (.slice Ao19 y108.length co19)) (fun _ hk => trivial)⟩, ⟨by (with_reducible repeat (first | refine blk_drewN ?_ _ | refine blk_drew ?_ | refine blk_alloc ?_ _)); refine blk_far ?_ NB103_104.out _; (with_reducible repeat (first | refine blk_drewN ?_ _ | refine blk_drew ?_ | refine blk_alloc ?_ _)); exact BK103.out⟩, ⟨by (with_reducible repeat (first | refine blk_drewN ?_ _ | refine blk_drew ?_ | refine blk_alloc ?_ _)); refine blk_put (cs := #[.int .i64 a0, .int .i64 a1, .int .i64 a2, u105003]) ?_ 3 _ rfl; (with_reducible repeat (first | refine blk_drewN ?_ _ | refine blk_drew ?_ | refine blk_alloc ?_ _)); exact BK104.out⟩, ⟨by repeat (first | (with_reducible first | exact HB.out | apply below_alloc | apply pw_below_drewN | apply below_drew1 | refine below_set ?_ GE103.out | refine below_set ?_ GE104.out) | exact HB.out)⟩⟩
            · rw [if_neg c13] at H
              exact absurd H (by simp)
          · rw [if_neg c12] at H
            exact absurd H (by simp)
        · rw [if_neg c11] at H
          exact absurd H (by simp)
      · rw [if_neg c9] at H
        have c9b0 : decide (x15_1 < a3) = false := decide_eq_false c9
        clear c9
        simp only [Option.some.injEq, Prod.mk.injEq] at H
        obtain ⟨rfl, rfl, rfl, rfl⟩ := H
        have hnb21 := NB104_103.out
        have hnc21 := NB103_104.out
        have hcz22_0 : wr.cell? ⟨gb104, 0, none⟩ = some (.int .i64 a0) := (blk_cell BK104.out 0).trans rfl
        have hcz22_1 : wr.cell? ⟨gb104, 1, none⟩ = some (.int .i64 a1) := (blk_cell BK104.out 1).trans rfl
        have hcz22_2 : wr.cell? ⟨gb104, 2, none⟩ = some (.int .i64 a2) := (blk_cell BK104.out 2).trans rfl
        have hcz22_3 : wr.cell? ⟨gb104, 3, none⟩ = some (u105003) := (blk_cell BK104.out 3).trans rfl
        have hfz22_0 := blk_frozen BK104.out 0
        have hfz22_1 := blk_frozen BK104.out 1
        have hfz22_2 := blk_frozen BK104.out 2
        have hfz22_3 := blk_frozen BK104.out 3
        have hcz23_0 : wr.cell? ⟨gb103, 0, none⟩ = some (.int .i64 0) := (blk_cell BK103.out 0).trans rfl
        have hcz23_1 : wr.cell? ⟨gb103, 1, none⟩ = some (.int .i64 0) := (blk_cell BK103.out 1).trans rfl
        have hcz23_2 : wr.cell? ⟨gb103, 2, none⟩ = some (.int .i64 0) := (blk_cell BK103.out 2).trans rfl
        have hcz23_3 : wr.cell? ⟨gb103, 3, none⟩ = some (.slice none 0 0) := (blk_cell BK103.out 3).trans rfl
        have hfz23_0 := blk_frozen BK103.out 0
        have hfz23_1 := blk_frozen BK103.out 1
        have hfz23_2 := blk_frozen BK103.out 2
        have hfz23_3 := blk_frozen BK103.out 3
        obtain ⟨Ao24, co24, eo24⟩ := Kd.S_slice HO_105003.out
        subst eo24
        go_wp2
        refine bodyPost_ret (results_cell_row rfl _ _ gb103 24 #[.int .i64 a0, .int .i64 a1, .int .i64 a2, .slice Ao24 x105003_1.length co24] (0, 0) _ rfl (by (with_reducible repeat (first | refine blk_drewN ?_ _ | refine blk_drew ?_ | refine blk_alloc ?_ _)); refine blk_put (cs := #[.int .i64 a0, .int .i64 a1, .int .i64 a2, .slice none 0 0]) ?_ 3 _ rfl; (with_reducible repeat (first | refine blk_drewN ?_ _ | refine blk_drew ?_ | refine blk_alloc ?_ _)); refine blk_put (cs := #[.int .i64 a0, .int .i64 a1, .int .i64 0, .slice none 0 0]) ?_ 2 _ rfl; (with_reducible repeat (first | refine blk_drewN ?_ _ | refine blk_drew ?_ | refine blk_alloc ?_ _)); refine blk_put (cs := #[.int .i64 a0, .int .i64 0, .int .i64 0, .slice none 0 0]) ?_ 1 _ rfl; (with_reducible repeat (first | refine blk_drewN ?_ _ | refine blk_drew ?_ | refine blk_alloc ?_ _)); refine blk_put (cs := #[.int .i64 0, .int .i64 0, .int .i64 0, .slice none 0 0]) ?_ 0 _ rfl; (with_reducible repeat (first | refine blk_drewN ?_ _ | refine blk_drew ?_ | refine blk_alloc ?_ _)); exact BK103.out) Tryz.underlying24 rfl (by kernel_rfl)) rfl ?_
        exact ⟨_, by first | rfl | (simp [errW_none, errW_some] <;> rfl) | (simp [*, errW_none, errW_some] <;> rfl), by (with_reducible repeat (first | apply Kd.S_alloc | apply Kd.S_drewN | apply Kd.S_drew)); exact Kd.S_mono (Kd.S_far (p := ⟨gb103, 3, none⟩) (Kd.S_far (p := ⟨gb103, 2, none⟩) (Kd.S_far (p := ⟨gb103, 1, none⟩) (Kd.S_far (p := ⟨gb103, 0, none⟩) (Kd.S_types HO_105003.out BK103.out (by decide)) (fun _ hk => hk.2) (.int .i64 a0)) (fun _ hk => hk.2) (.int .i64 a1)) (fun _ hk => hk.2) (.int .i64 a2)) (fun _ hk => hk.2) (.slice Ao24 x105003_1.length co24)) (fun _ hk => trivial), by repeat (first | (with_reducible first | exact HB.out | apply below_alloc | apply pw_below_drewN | apply below_drew1 | refine below_set ?_ GE103.out | refine below_set ?_ GE104.out) | exact HB.out)⟩
end Go.Proofs.YtphkionjjhhhlaaGreat.Q
end
section
namespace Go.Proofs.YtphkionjjhhhlaaGreat.Q
open Go.RowKit Go.Proofs.YtphkionjjhhhlaaGreatW.PrintWords Go.Proofs.YtphkionjjhhhlaaGreatW.PrintLast Go.Proofs.YtphkionjjhhhlaaGreatW.PrintMore
theorem S_row {w : World} {base : Nat} {ok : Nat → Prop} {g n cap : Nat} {planes : List (List Int)} (h : Kd.S (Kd.slice 3 (Kd.int .i64)) 39 w base ok (.slice (some ⟨g, 0, none⟩) n cap) planes) (p : Int) (h0 : 0 ≤ p) (h1 : p < n) (row : List Int) (hrow : planes[p.toNat]? = some row) (hpos : 0 < row.length) :
    ∃ (gq cq : Nat) (oki : Nat → Prop), w.cell? ⟨g, p.toNat, none⟩ = some (.slice (some ⟨gq, 0, none⟩) row.length cq) ∧ (∀ k, oki k → ok k ∧ k ≠ g) ∧ gq ≠ g ∧ ok gq ∧ base ≤ gq ∧ gq < w.heap.size ∧ (∃ cells, w.heap[gq]? = some (.cells cells 3 (0, 0))) ∧
      (Kd.int .i64).R 3 w base oki (.slice (some ⟨gq, 0, none⟩) row.length cq) row ∧ row.length ≤ cq ∧
      ∀ (w1 : World) (row' : List Int), w.grownBy w1 (some gq) → (Kd.int .i64).R 3 w1 base oki (.slice (some ⟨gq, 0, none⟩) row.length cq) row' → Kd.S (Kd.slice 3 (Kd.int .i64)) 39 w1 base ok (.slice (some ⟨g, 0, none⟩) n cap) (planes.set p.toNat row') := by
  obtain ⟨oki, c, hcl, hM, hcc, hok, hback⟩ := Kd.S_borrow h [] p h0 h1
  have hg : planes.getD p.toNat [] = row := by simp [List.getD_eq_getElem?_getD, hrow]
  rw [hg] at hM
  obtain ⟨v, rfl, hR⟩ := hM
  obtain ⟨gq, cq, rfl, hb, hlt, cells, hcells⟩ := Kd.R_form hR hpos
  have hcell := hcc 0 _ rfl
  have ho := hok gq (hR.1 gq rfl)
  refine ⟨gq, cq, oki, ?_, fun k hk => ⟨(hok k hk).1, fun he => (hok k hk).2 (by rw [he]; rfl)⟩, fun he => ho.2 (by rw [he]; rfl), ho.1, hb, hlt, ⟨cells, hcells⟩, hR, (Kd.R_reads' hR).2.1, fun w1 row' hg1 hR1 => ?_⟩
  · rw [add_at] at hcell
    simpa [Kd.slice] using hcell
  · exact hback hg1 (fun k hk => by injection hk with hk; subst hk; exact hR.1 gq rfl) ⟨_, rfl, hR1⟩
def rot1 (ow oh : Nat) (l : List Int) : List Int := (List.range (ow * oh)).map fun q => l.getD ((oh - 1 - q % oh) * ow + q / oh) 0
theorem rot1_length (ow oh : Nat) (l : List Int) : (rot1 ow oh l).length = ow * oh := by simp [rot1]
def nx (ow oh : Nat) (ps : List (List Int)) (p t : Nat) : List (List Int) :=
  (List.range ps.length).map fun j => if j < p then rot1 ow oh (ps.getD j []) else if j = p then (rot1 ow oh (ps.getD j [])).take t ++ List.replicate (ow * oh - t) 0 else List.replicate (ow * oh) 0
theorem nx_length (ow oh : Nat) (ps : List (List Int)) (p t : Nat) : (nx ow oh ps p t).length = ps.length := by simp [nx]
theorem nx_get (ow oh : Nat) (ps : List (List Int)) (p t j : Nat) (h : j < ps.length) : (nx ow oh ps p t)[j]? = some (if j < p then rot1 ow oh (ps.getD j []) else if j = p then (rot1 ow oh (ps.getD j [])).take t ++ List.replicate (ow * oh - t) 0 else List.replicate (ow * oh) 0) := by
  simp [nx, h]
theorem nx_zero (ow oh : Nat) (ps : List (List Int)) : nx ow oh ps 0 0 = List.replicate ps.length (List.replicate (ow * oh) 0) := by
  apply List.ext_getElem?
  intro j
  by_cases h : j < ps.length
  · rw [nx_get _ _ _ _ _ _ h, List.getElem?_replicate, if_pos h]
    by_cases hj : j = 0 <;> simp [hj]
  · rw [List.getElem?_eq_none (by rw [nx_length]; omega), List.getElem?_eq_none (by rw [List.length_replicate]; omega)]
theorem nx_next (ow oh : Nat) (ps : List (List Int)) (p : Nat) : nx ow oh ps p (ow * oh) = nx ow oh ps (p + 1) 0 := by
  apply List.ext_getElem?
  intro j
  by_cases h : j < ps.length
  · rw [nx_get _ _ _ _ _ _ h, nx_get _ _ _ _ _ _ h]
    rcases Nat.lt_trichotomy j p with hj | hj | hj
    · rw [if_pos hj, if_pos (by omega)]
    · subst hj
      rw [if_neg (by omega), if_pos rfl, if_pos (by omega), List.take_of_length_le (by rw [rot1_length]; exact Nat.le_refl _)]
      simp
    · rw [if_neg (by omega), if_neg (by omega), if_neg (by omega)]
      by_cases hj' : j = p + 1 <;> simp [hj']
  · rw [List.getElem?_eq_none (by rw [nx_length]; omega), List.getElem?_eq_none (by rw [nx_length]; omega)]
theorem nx_last (ow oh : Nat) (ps : List (List Int)) : nx ow oh ps ps.length 0 = ps.map (rot1 ow oh) := by
  apply List.ext_getElem?
  intro j
  by_cases h : j < ps.length
  · rw [nx_get _ _ _ _ _ _ h, if_pos h]
    simp [h]
  · rw [List.getElem?_eq_none (by rw [nx_length]; omega), List.getElem?_eq_none (by rw [List.length_map]; omega)]
def nxr (ow oh : Nat) (l : List Int) (t : Nat) : List Int := (rot1 ow oh l).take t ++ List.replicate (ow * oh - t) 0
theorem nxr_length (ow oh : Nat) (l : List Int) (t : Nat) (ht : t ≤ ow * oh) : (nxr ow oh l t).length = ow * oh := by simp [nxr, rot1_length]; omega
theorem nx_row (ow oh : Nat) (ps : List (List Int)) (p t : Nat) (l : List Int) (h : ps[p]? = some l) : (nx ow oh ps p t)[p]? = some (nxr ow oh l t) := by
  have hl := (List.getElem?_eq_some_iff.1 h).1
  rw [nx_get _ _ _ _ _ _ hl, if_neg (by omega), if_pos rfl]
  simp [nxr, List.getD_eq_getElem?_getD, h]
theorem take_set {α : Type} (l : List α) (z : α) (t N : Nat) (hN : l.length = N) (ht : t < N) (x : α) (hx : l[t]? = some x) : (l.take t ++ List.replicate (N - t) z).set t x = l.take (t + 1) ++ List.replicate (N - (t + 1)) z := by
  have h1 : (l.take t).length = t := by rw [List.length_take]; omega
  rw [List.set_append, h1, if_neg (by omega), Nat.sub_self, show N - t = (N - (t + 1)) + 1 by omega, List.replicate_succ, List.set_cons_zero, List.take_add_one, hx]
  simp
theorem nx_set (ow oh : Nat) (ps : List (List Int)) (p t : Nat) (l : List Int) (h : ps[p]? = some l) (ht : t < ow * oh) (x : Int) (hx : x = l.getD ((oh - 1 - t % oh) * ow + t / oh) 0) :
    (nx ow oh ps p t).set p ((nxr ow oh l t).set t x) = nx ow oh ps p (t + 1) := by
  have hl := (List.getElem?_eq_some_iff.1 h).1
  have hx' : (rot1 ow oh l)[t]? = some x := by rw [hx]; simp [rot1, ht]
  unfold nxr
  rw [take_set _ _ t _ (rot1_length ow oh l) ht x hx']
  apply List.ext_getElem?
  intro j
  by_cases hj : p = j
  · subst hj
    rw [List.getElem?_set_self (by rw [nx_length]; exact hl)]
    have h2 := nx_row ow oh ps p (t + 1) l h
    rw [h2]
    rfl
  · rw [List.getElem?_set_ne hj]
    by_cases hjl : j < ps.length
    · rw [nx_get _ _ _ _ _ _ hjl, nx_get _ _ _ _ _ _ hjl]
      by_cases h3 : j < p
      · rw [if_pos h3, if_pos h3]
      · rw [if_neg h3, if_neg h3, if_neg (by omega), if_neg (by omega)]
    · rw [List.getElem?_eq_none (by rw [nx_length]; omega), List.getElem?_eq_none (by rw [nx_length]; omega)]
def flipT (ow : Nat) (l : List Int) : Nat → List Int
  | 0 => l
  | t + 1 => mirK (t * ow) ow ow (flipT ow l t)
theorem flipT_length (ow : Nat) (l : List Int) (t : Nat) : (flipT ow l t).length = l.length := by
  induction t with
  | zero => rfl
  | succ t ih => rw [flipT, mirK_length, ih]
def flipP (ow oh : Nat) (l : List Int) : List Int := flipT ow l oh
def fx (ow oh : Nat) (ps : List (List Int)) (p t : Nat) : List (List Int) :=
  (List.range ps.length).map fun j => if j < p then flipP ow oh (ps.getD j []) else if j = p then flipT ow (ps.getD j []) t else ps.getD j []
theorem fx_length (ow oh : Nat) (ps : List (List Int)) (p t : Nat) : (fx ow oh ps p t).length = ps.length := by simp [fx]
theorem fx_get (ow oh : Nat) (ps : List (List Int)) (p t j : Nat) (h : j < ps.length) : (fx ow oh ps p t)[j]? = some (if j < p then flipP ow oh (ps.getD j []) else if j = p then flipT ow (ps.getD j []) t else ps.getD j []) := by
  simp [fx, h]
theorem fx_zero (ow oh : Nat) (ps : List (List Int)) : fx ow oh ps 0 0 = ps := by
  apply List.ext_getElem?
  intro j
  by_cases h : j < ps.length
  · rw [fx_get _ _ _ _ _ _ h, if_neg (by omega)]
    by_cases hj : j = 0 <;> simp [hj, flipT, List.getD_eq_getElem?_getD] <;> simp_all
  · rw [List.getElem?_eq_none (by rw [fx_length]; omega), List.getElem?_eq_none (by omega)]
theorem fx_next (ow oh : Nat) (ps : List (List Int)) (p : Nat) : fx ow oh ps p oh = fx ow oh ps (p + 1) 0 := by
  apply List.ext_getElem?
  intro j
  by_cases h : j < ps.length
  · rw [fx_get _ _ _ _ _ _ h, fx_get _ _ _ _ _ _ h]
    rcases Nat.lt_trichotomy j p with hj | hj | hj
    · rw [if_pos hj, if_pos (by omega)]
    · subst hj
      rw [if_neg (by omega), if_pos rfl, if_pos (by omega)]
      rfl
    · rw [if_neg (by omega), if_neg (by omega), if_neg (by omega)]
      by_cases hj' : j = p + 1 <;> simp [hj', flipT]
  · rw [List.getElem?_eq_none (by rw [fx_length]; omega), List.getElem?_eq_none (by rw [fx_length]; omega)]
theorem fx_last (ow oh : Nat) (ps : List (List Int)) : fx ow oh ps ps.length 0 = ps.map (flipP ow oh) := by
  apply List.ext_getElem?
  intro j
  by_cases h : j < ps.length
  · rw [fx_get _ _ _ _ _ _ h, if_pos h]
    simp [h]
  · rw [List.getElem?_eq_none (by rw [fx_length]; omega), List.getElem?_eq_none (by rw [List.length_map]; omega)]
theorem fx_row (ow oh : Nat) (ps : List (List Int)) (p t : Nat) (l : List Int) (h : ps[p]? = some l) : (fx ow oh ps p t)[p]? = some (flipT ow l t) := by
  have hl := (List.getElem?_eq_some_iff.1 h).1
  rw [fx_get _ _ _ _ _ _ hl, if_neg (by omega), if_pos rfl]
  simp [List.getD_eq_getElem?_getD, h]
theorem fx_set (ow oh : Nat) (ps : List (List Int)) (p t : Nat) (l : List Int) (h : ps[p]? = some l) :
    (fx ow oh ps p t).set p (mirK (t * ow) ow ow (flipT ow l t)) = fx ow oh ps p (t + 1) := by
  have hl := (List.getElem?_eq_some_iff.1 h).1
  apply List.ext_getElem?
  intro j
  by_cases hj : p = j
  · subst hj
    rw [List.getElem?_set_self (by rw [fx_length]; exact hl), fx_row ow oh ps p (t + 1) l h]
    rfl
  · rw [List.getElem?_set_ne hj]
    by_cases hjl : j < ps.length
    · rw [fx_get _ _ _ _ _ _ hjl, fx_get _ _ _ _ _ _ hjl]
      by_cases h3 : j < p
      · rw [if_pos h3, if_pos h3]
      · rw [if_neg h3, if_neg h3, if_neg (by omega), if_neg (by omega)]
    · rw [List.getElem?_eq_none (by rw [fx_length]; omega), List.getElem?_eq_none (by rw [fx_length]; omega)]
def turnN : Nat → Nat × Nat × List (List Int) → Nat × Nat × List (List Int)
  | 0, s => s
  | k + 1, s => turnN k (s.2.1, s.1, s.2.2.map (rot1 s.1 s.2.1))
def okPic (s : Nat × Nat × List (List Int)) : Prop := 1 ≤ s.1 ∧ s.1 ≤ 1000 ∧ 1 ≤ s.2.1 ∧ s.2.1 ≤ 1000 ∧ s.2.2.length ≤ 1000 ∧ ∀ l ∈ s.2.2, l.length = s.1 * s.2.1
theorem okPic.turn {s : Nat × Nat × List (List Int)} (h : okPic s) : okPic (s.2.1, s.1, s.2.2.map (rot1 s.1 s.2.1)) := by
  obtain ⟨h1, h2, h3, h4, h5, h6⟩ := h
  refine ⟨h3, h4, h1, h2, by simpa using h5, fun l hl => ?_⟩
  obtain ⟨l', _, rfl⟩ := List.mem_map.1 hl
  rw [rot1_length, Nat.mul_comm]
theorem blank_l0 (x0 x1 a2 : Int) (hx0 : 1 ≤ x0 ∧ x0 ≤ 1000) (hx1 : 1 ≤ x1 ∧ x1 ≤ 1000) (n : Nat) (hn : n ≤ 1000) : ∀ (k j : Nat), k + j = n → item_blank.l0 (k + 1) x0 x1 n j x0 x1 a2 (List.replicate j (List.replicate (x0 * x1).toNat 0)) = some (x0, x1, a2, List.replicate n (List.replicate (x0 * x1).toNat 0)) := by
  have hm : 0 ≤ x0 * x1 := Int.mul_nonneg (by omega) (by omega)
  have hm2 : x0 * x1 ≤ 1000 * 1000 := Int.le_trans (Int.mul_le_mul_of_nonneg_left hx1.2 (by omega)) (Int.mul_le_mul_of_nonneg_right hx0.2 (by omega))
  have hw : wrap64 (x0 * x1) = x0 * x1 := by unfold wrap64; omega
  intro k
  induction k with
  | zero =>
    intro j hj
    have : j = n := by omega
    subst this
    rw [item_blank.l0, if_neg (by omega)]
  | succ k ih =>
    intro j hj
    rw [item_blank.l0, if_pos (by omega), hw, if_pos hm, if_pos (by omega), if_pos (by rw [List.length_replicate]; omega)]
    have := ih (j + 1) (by omega)
    rw [show wrap64 ((j : Int) + 1) = ((j + 1 : Nat) : Int) by unfold wrap64; omega]
    rw [List.replicate_succ'] at this
    exact this
theorem blank_is (x0 x1 a2 : Int) (hx0 : 1 ≤ x0 ∧ x0 ≤ 1000) (hx1 : 1 ≤ x1 ∧ x1 ≤ 1000) (n : Nat) (hn : n ≤ 1000) : item_blank.f (n + 1) x0 x1 a2 n = some (x0, x1, a2, List.replicate n (List.replicate (x0 * x1).toNat 0)) :=
  blank_l0 x0 x1 a2 hx0 hx1 n hn n 0 (by omega)
end Go.Proofs.YtphkionjjhhhlaaGreat.Q
end
section
namespace Go.Proofs.YtphkionjjhhhlaaGreat.Q
open Go.RowKit Go.Proofs.YtphkionjjhhhlaaGreatW.PrintWords Go.Proofs.YtphkionjjhhhlaaGreatW.PrintLast Go.Proofs.YtphkionjjhhhlaaGreatW.PrintMore
def Ev (P : Nat → Prop) : Prop := ∃ K, ∀ k, K ≤ k → P k
theorem Ev.step {α : Type} {f g : Nat → α} {R : α} (h : ∀ k, f (k + 1) = g k) (hg : Ev fun k => g k = R) : Ev fun k => f k = R := by
  obtain ⟨K, hK⟩ := hg
  exact ⟨K + 1, fun k hk => by obtain ⟨m, rfl⟩ : ∃ m, k = m + 1 := ⟨k - 1, by omega⟩; show f (m + 1) = R; rw [h]; exact hK m (by omega)⟩
theorem Ev.const {α : Type} {f : Nat → α} {R : α} (h : ∀ k, f (k + 1) = R) : Ev fun k => f k = R :=
  ⟨1, fun k hk => by obtain ⟨m, rfl⟩ : ∃ m, k = m + 1 := ⟨k - 1, by omega⟩; exact h m⟩
theorem Ev.bind {α β : Type} {f : Nat → Option α} {g : Nat → α → Option β} {x : α} {R : Option β} (hf : Ev fun k => f k = some x) (hg : Ev fun k => g k x = R) : Ev fun k => (f k).bind (g k) = R := by
  obtain ⟨K, hK⟩ := hf
  obtain ⟨L, hL⟩ := hg
  exact ⟨K + L, fun k hk => by show (f k).bind (g k) = R; rw [hK k (by omega), Option.bind_some]; exact hL k (by omega)⟩
theorem Ev.mono {P Q : Nat → Prop} (h : Ev P) (hpq : ∀ k, P k → Q k) : Ev Q := by
  obtain ⟨K, hK⟩ := h
  exact ⟨K, fun k hk => hpq k (hK k hk)⟩
end Go.Proofs.YtphkionjjhhhlaaGreat.Q
end
section
namespace Go.Proofs.YtphkionjjhhhlaaGreat.Q
open Go.RowKit Go.Proofs.YtphkionjjhhhlaaGreatW.PrintWords Go.Proofs.YtphkionjjhhhlaaGreatW.PrintLast Go.Proofs.YtphkionjjhhhlaaGreatW.PrintMore
section
variable (N : Nat) (ch : Int → List Int)
inductive Rch : Int → Int → Prop where
  | one {k m : Int} : m ∈ ch k → Rch k m
  | more {k c m : Int} : c ∈ ch k → Rch c m → Rch k m
theorem Rch.trans {k c m : Int} (h : Rch ch k c) (h2 : Rch ch c m) : Rch ch k m := by
  induction h with
  | one h => exact .more h h2
  | more h _ ih => exact .more h (ih h2)
theorem countP_lt {α : Type} {p q : α → Bool} : ∀ (l : List α) (x : α), (∀ y ∈ l, p y = true → q y = true) → x ∈ l → q x = true → p x = false → l.countP p < l.countP q := by
  intro l
  induction l with
  | nil => intro x _ hx; cases hx
  | cons y l ih =>
    intro x h hx hq hp
    have hle : l.countP p ≤ l.countP q := List.countP_mono_left fun z hz => h z (List.mem_cons_of_mem _ hz)
    rcases List.mem_cons.1 hx with rfl | hx
    · rw [List.countP_cons_of_neg (by simp [hp]), List.countP_cons_of_pos hq]; omega
    · have := ih x (fun z hz => h z (List.mem_cons_of_mem _ hz)) hx hq hp
      by_cases hy : p y = true
      · rw [List.countP_cons_of_pos hy, List.countP_cons_of_pos (h y List.mem_cons_self hy)]; omega
      · rw [List.countP_cons_of_neg hy]
        exact Nat.lt_of_lt_of_le this (by rw [List.countP_cons]; omega)
def unseen (s : List Bool) : Nat := (List.range N).countP fun m : Nat => !(rdOf false s (m : Int))
theorem unseen_le (s : List Bool) : unseen N s ≤ N := by
  unfold unseen
  exact Nat.le_trans List.countP_le_length (by simp)
def At (s : List Bool) (m : Int) : Prop := rdOf false s m = true
theorem at_set {s : List Bool} {c : Int} (hs : s.length = N) (h0 : 0 ≤ c) (h1 : c < N) (m : Int) (hm : 0 ≤ m) : At (s.set c.toNat true) m ↔ m = c ∨ At s m := by
  unfold At rdOf
  simp only [List.getD_eq_getElem?_getD]
  by_cases h : c.toNat = m.toNat
  · have : m = c := by omega
    subst this
    rw [List.getElem?_set_self (by omega)]
    simp
  · rw [List.getElem?_set_ne h]
    have : m ≠ c := fun e => h (by rw [e])
    simp [this]
theorem unseen_set {s : List Bool} {c : Int} (hs : s.length = N) (h0 : 0 ≤ c) (h1 : c < N) (hc : ¬ At s c) : unseen N (s.set c.toNat true) < unseen N s := by
  unfold unseen
  refine countP_lt _ c.toNat (fun y hy h => ?_) (List.mem_range.2 (by omega)) ?_ ?_
  · have := mt (at_set N hs h0 h1 (y : Int) (by omega)).2
    simp only [At, Bool.not_eq_true', not_or] at *
    simp only [Bool.not_eq_true', Bool.eq_false_iff] at h ⊢
    exact fun hh => h ((at_set N hs h0 h1 (y : Int) (by omega)).2 (.inr hh))
  · rw [Int.toNat_of_nonneg h0]
    simpa [At] using hc
  · rw [Int.toNat_of_nonneg h0]
    have := (at_set N hs h0 h1 c h0).2 (.inl rfl)
    simpa [At] using this
theorem unseen_mono {s s' : List Bool} (h : ∀ m, At s m → At s' m) : unseen N s' ≤ unseen N s := by
  unfold unseen
  refine List.countP_mono_left fun y _ hy => ?_
  simp only [Bool.not_eq_true', Bool.eq_false_iff] at hy ⊢
  exact fun hh => hy (h _ hh)
def gL (i : Int) (go : Int → List Bool → Option (Bool × List Bool)) : List Int → List Bool → Option (Bool × List Bool)
  | [], seen => some (false, seen)
  | c :: cs, seen =>
    if c = i then some (true, seen)
    else if 0 ≤ c ∧ c < (seen.length : Int) then
      if rdOf false seen c = true then gL i go cs seen
      else (go c (seen.set c.toNat true)).bind fun r => if r.1 = true then some r else gL i go cs r.2
    else none
def wN (i : Int) : Nat → Int → List Bool → Option (Bool × List Bool)
  | 0, _, _ => none
  | f + 1, k, seen => if 0 ≤ k ∧ k < (N : Int) ∧ seen.length = N then gL i (wN i f) (ch k) seen else none
structure Dfs (i : Int) (cs : List Int) (s : List Bool) (b : Bool) (s' : List Bool) : Prop where
  len : s'.length = N
  keep : ∀ m, At s m → At s' m
  yes : b = true → ∃ c ∈ cs, c = i ∨ Rch ch c i
  no : b = false → (∀ c ∈ cs, c ≠ i ∧ At s' c) ∧ ∀ m, 0 ≤ m → At s' m → ¬ At s m → ∀ c ∈ ch m, c ≠ i ∧ At s' c
theorem gL_is (hch : ∀ k, 0 ≤ k → k < (N : Int) → ∀ c ∈ ch k, 0 ≤ c ∧ c < (N : Int)) (i : Int) (f : Nat)
    (ih : ∀ k s, 0 ≤ k → k < (N : Int) → s.length = N → unseen N s < f → ∃ b s', wN N ch i f k s = some (b, s') ∧ Dfs N ch i (ch k) s b s') :
    ∀ (cs : List Int) (s : List Bool), (∀ c ∈ cs, 0 ≤ c ∧ c < (N : Int)) → s.length = N → unseen N s ≤ f → ∃ b s', gL i (wN N ch i f) cs s = some (b, s') ∧ Dfs N ch i cs s b s' := by
  intro cs
  induction cs with
  | nil =>
    intro s _ hs _
    exact ⟨false, s, rfl, hs, fun _ h => h, fun h => (by cases h), fun _ => ⟨fun c hc => (by cases hc), fun m _ h h2 => absurd h h2⟩⟩
  | cons c cs ih2 =>
    intro s hcs hs hu
    have hc := hcs c List.mem_cons_self
    have hcs' : ∀ c ∈ cs, 0 ≤ c ∧ c < (N : Int) := fun x hx => hcs x (List.mem_cons_of_mem _ hx)
    unfold gL
    by_cases hi : c = i
    · rw [if_pos hi]
      exact ⟨true, s, rfl, hs, fun _ h => h, fun _ => ⟨c, List.mem_cons_self, .inl hi⟩, fun h => (by cases h)⟩
    · rw [if_neg hi, if_pos ⟨hc.1, by omega⟩]
      by_cases hseen : rdOf false s c = true
      · rw [if_pos hseen]
        obtain ⟨b, s', h1, h2⟩ := ih2 s hcs' hs hu
        refine ⟨b, s', h1, h2.len, h2.keep, fun h => ?_, fun h => ⟨fun x hx => ?_, (h2.no h).2⟩⟩
        · obtain ⟨x, hx, h3⟩ := h2.yes h
          exact ⟨x, List.mem_cons_of_mem _ hx, h3⟩
        · rcases List.mem_cons.1 hx with rfl | hx
          · exact ⟨hi, h2.keep _ hseen⟩
          · exact (h2.no h).1 x hx
      · rw [if_neg hseen]
        have hs1 : (s.set c.toNat true).length = N := by rw [List.length_set]; exact hs
        have hu1 := unseen_set N hs hc.1 hc.2 hseen
        obtain ⟨b1, s2, h1, h2⟩ := ih c _ hc.1 hc.2 hs1 (by omega)
        rw [h1, Option.bind_some]
        have hat : ∀ m, 0 ≤ m → (At (s.set c.toNat true) m ↔ m = c ∨ At s m) := at_set N hs hc.1 hc.2
        have hkeep : ∀ m, At s m → At s2 m := by
          intro m hm
          by_cases h0 : 0 ≤ m
          · exact h2.keep m ((hat m h0).2 (.inr hm))
          · refine h2.keep m ?_
            have e : m.toNat = 0 := by omega
            have := (hat 0 (by omega)).2
            unfold At rdOf at hm this ⊢
            rw [e] at hm ⊢
            exact this (.inr hm)
        cases b1 with
        | true =>
          obtain ⟨x, hx, h3⟩ := h2.yes rfl
          refine ⟨true, s2, rfl, h2.len, hkeep, fun _ => ⟨c, List.mem_cons_self, .inr ?_⟩, fun h => (by cases h)⟩
          rcases h3 with rfl | h3
          · exact .one hx
          · exact .more hx h3
        | false =>
          simp only [Bool.false_eq_true, if_false]
          have hno := h2.no rfl
          obtain ⟨b, s3, h4, h5⟩ := ih2 s2 hcs' h2.len (by have := unseen_mono N h2.keep; omega)
          have hcs2 : At s2 c := h2.keep c ((hat c hc.1).2 (.inl rfl))
          refine ⟨b, s3, h4, h5.len, fun m hm => h5.keep m (hkeep m hm), fun h => ?_, fun h => ⟨fun x hx => ?_, fun m h0 hm hn x hx => ?_⟩⟩
          · obtain ⟨x, hx, h6⟩ := h5.yes h
            exact ⟨x, List.mem_cons_of_mem _ hx, h6⟩
          · rcases List.mem_cons.1 hx with rfl | hx
            · exact ⟨hi, h5.keep _ hcs2⟩
            · exact (h5.no h).1 x hx
          · by_cases hm2 : At s2 m
            · by_cases hmc : m = c
              · subst hmc
                exact ⟨(hno.1 x hx).1, h5.keep _ (hno.1 x hx).2⟩
              · have := hno.2 m h0 hm2 (fun hh => by rcases (hat m h0).1 hh with h7 | h7 <;> contradiction) x hx
                exact ⟨this.1, h5.keep _ this.2⟩
            · exact (h5.no h).2 m h0 hm hm2 x hx
theorem wN_is (hch : ∀ k, 0 ≤ k → k < (N : Int) → ∀ c ∈ ch k, 0 ≤ c ∧ c < (N : Int)) (i : Int) : ∀ (f : Nat) (k : Int) (s : List Bool), 0 ≤ k → k < (N : Int) → s.length = N → unseen N s < f →
    ∃ b s', wN N ch i f k s = some (b, s') ∧ Dfs N ch i (ch k) s b s' := by
  intro f
  induction f with
  | zero => intro k s _ _ _ h; omega
  | succ f ih =>
    intro k s h0 h1 hs hu
    obtain ⟨b, s', h2, h3⟩ := gL_is N ch hch i f ih (ch k) s (hch k h0 h1) hs (by omega)
    exact ⟨b, s', by unfold wN; rw [if_pos ⟨h0, h1, hs⟩]; exact h2, h3⟩
theorem wN_tells (hch : ∀ k, 0 ≤ k → k < (N : Int) → ∀ c ∈ ch k, 0 ≤ c ∧ c < (N : Int)) (i : Int) (h0 : 0 ≤ i) (h1 : i < (N : Int)) :
    ∃ b s', wN N ch i (N + 1) i (List.replicate N false) = some (b, s') ∧ (b = true ↔ Rch ch i i) := by
  obtain ⟨b, s', h2, h3⟩ := wN_is N ch hch i (N + 1) i (List.replicate N false) h0 h1 (by simp) (by have := unseen_le N (List.replicate N false); omega)
  refine ⟨b, s', h2, fun h => ?_, fun h => ?_⟩
  · obtain ⟨c, hc, h4⟩ := h3.yes h
    rcases h4 with rfl | h4
    · exact .one hc
    · exact .more hc h4
  · cases hb : b with
    | true => rfl
    | false =>
      exfalso
      have hno := h3.no hb
      have hn : ∀ m, ¬ At (List.replicate N false) m := by
        intro m
        unfold At rdOf
        rw [List.getD_eq_getElem?_getD, List.getElem?_replicate]
        split <;> simp
      have key : ∀ k m, Rch ch k m → 0 ≤ k → (∀ c ∈ ch k, (0 ≤ c ∧ c < (N : Int)) ∧ c ≠ i ∧ At s' c) → m ≠ i := by
        intro k m hr
        induction hr with
        | one h => intro _ hc; exact (hc _ h).2.1
        | more h _ ih =>
          intro _ hc
          have hx := hc _ h
          exact ih hx.1.1 fun x hx2 => ⟨hch _ hx.1.1 hx.1.2 x hx2, hno.2 _ hx.1.1 hx.2.2 (hn _) x hx2⟩
      exact key i i h h0 (fun c hc => ⟨hch i h0 h1 c hc, hno.1 c hc⟩) rfl
end
end Go.Proofs.YtphkionjjhhhlaaGreat.Q
end
section
namespace Go.Proofs.YtphkionjjhhhlaaGreat.Q
open Go.RowKit Go.Proofs.YtphkionjjhhhlaaGreatW.PrintWords Go.Proofs.YtphkionjjhhhlaaGreatW.PrintLast Go.Proofs.YtphkionjjhhhlaaGreatW.PrintMore
set_option maxHeartbeats 8000000 in
set_option maxRecDepth 100000 in
theorem IndexFunc_item.calls (g : FuncId) (caps : Array Value) (p : S68 → Bool) (A0 : Option Addr) (c0 : Nat) (l0 : List S68) (w : World) (hr0 : Kd.C k68 w A0 l0.length l0)
    (hp : PredIn Tryz.prog g caps (fun W (x : S68) v => ∃ cs : List Value, v = .agg cs.toArray ∧ k68.K W x cs) p w) :
    Calls Tryz.prog 111 #[.slice A0 l0.length c0, .func (.func g) #[] caps] w fun e w' => e = .returned (.int .i64 (idxOf p l0)) ∧ Below w.heap.size w w' := by
  have HR0 := Aside0.mk hr0
  have hlen := Aside0.mk hr0.2.1
  clear hr0
  have HB := Aside0.mk (Below.refl w.heap.size w)
  have HP := Aside0.mk hp
  have hen := hp.enters
  clear hp
  have HI : Aside0 (0 ≤ (0 : Int) ∧ (0 : Int) + (l0.length : Nat) = l0.length ∧ idxAux p (l0.drop (0 : Int).toNat) (0 : Int).toNat = idxOf p l0) := ⟨by omega, by omega, rfl⟩
  go_enter Tryz.func111, Tryz.ntmps111
  go_wp2
  go_loopg [8] l0.length (fun kq v8 w' => ∃ i : Int, v8 = .int .i64 i ∧ Aside0 (0 ≤ i ∧ i + kq = l0.length ∧ idxAux p (l0.drop i.toNat) i.toNat = idxOf p l0) ∧ Aside0 (Below w.heap.size w w'))
  case atStart => exact ⟨0, rfl, HI, HB⟩
  case round =>
    clear HI HB
    obtain ⟨i, rfl, HI, HB⟩ := hrel
    cases gk with
    | zero =>
      have hge : decide (i < (l0.length : Int)) = false := by have := HI.out; simp; omega
      go_wp2
      go_ret
      exact ⟨by rw [← HI.out.2.2, idxOf_end p l0 i.toNat (by have := HI.out; omega)]; rfl, HB.out⟩
    | succ k1 =>
      have h0 : 0 ≤ i := by have := HI.out; omega
      have h1 : i < (l0.length : Int) := by have := HI.out; omega
      have hge : decide (i < (l0.length : Int)) = true := decide_eq_true h1
      have hg0 : decide (0 ≤ i) = true := decide_eq_true h0
      obtain ⟨ad, A2, c2, A3, c3, A4, c4, A9, c9, e0, hx0, hx1, hx2, hx3, hx4, hx5, hx6, hx7, hx8, hx9, hx10, hx11, hl2, hi2, hl3, hi3, hl4, hi4, hl9, hi9⟩ := at_T68 HR0.out i h0 h1
      cases e0
      replace hx0 := (HB.out.cell (World.block_lt_of_cell? w _ hx0)).trans hx0
      replace hx1 := (HB.out.cell (World.block_lt_of_cell? w _ hx1)).trans hx1
      replace hx2 := (HB.out.cell (World.block_lt_of_cell? w _ hx2)).trans hx2
      replace hx3 := (HB.out.cell (World.block_lt_of_cell? w _ hx3)).trans hx3
      replace hx4 := (HB.out.cell (World.block_lt_of_cell? w _ hx4)).trans hx4
      replace hx5 := (HB.out.cell (World.block_lt_of_cell? w _ hx5)).trans hx5
      replace hx6 := (HB.out.cell (World.block_lt_of_cell? w _ hx6)).trans hx6
      replace hx7 := (HB.out.cell (World.block_lt_of_cell? w _ hx7)).trans hx7
      replace hx8 := (HB.out.cell (World.block_lt_of_cell? w _ hx8)).trans hx8
      replace hx9 := (HB.out.cell (World.block_lt_of_cell? w _ hx9)).trans hx9
      replace hx10 := (HB.out.cell (World.block_lt_of_cell? w _ hx10)).trans hx10
      replace hx11 := (HB.out.cell (World.block_lt_of_cell? w _ hx11)).trans hx11
      have hx : Aside0 (l0[i.toNat]? = some (rd_T68 l0 i)) := ⟨by
        have hl : i.toNat < l0.length := by omega
        simp [rd_T68, List.getElem?_eq_getElem hl, List.getD_eq_getElem?_getD]⟩
      have HC := Aside0.mk (HP.out.tells wr (rd_T68 l0 i) _ HB.out ⟨_, rfl, k68_mk wr (rd_T68 l0 i) hl2 (Kd.C_below hi2 HB.out) hl3 (Kd.C_below hi3 HB.out) hl4 (Kd.C_below hi4 HB.out) hl9 (Kd.C_below hi9 HB.out)⟩)
      clear hl2 hi2 hl3 hi3 hl4 hi4 hl9 hi9
      generalize rd_T68 l0 i = x at *
      replace h0 := eq_true h0
      replace h1 := eq_true h1
      cases hpx : p x with
      | true =>
        have HPX := Aside0.mk hpx
        rw [hpx] at HC
        clear hpx
        go_wp2_with (refine HC.out.mono ?_; rintro e w' ⟨rfl, hb⟩; have HB2 := Aside0.mk hb; clear hb)
        go_ret
        have h2 := HI.out.2.2
        exact ⟨by rw [← h2, idxOf_step p l0 i.toNat x hx.out, if_pos HPX.out, Int.toNat_of_nonneg HI.out.1]; rfl, (pw_below_trans HB.out HB2.out)⟩
      | false =>
        have HPX := Aside0.mk hpx
        rw [hpx] at HC
        clear hpx
        go_wp2_with (refine HC.out.mono ?_; rintro e w' ⟨rfl, hb⟩; have HB2 := Aside0.mk hb; clear hb)
        go_roundg k1
        case measure => omega
        case rel =>
          have hw : wrap64 (i + 1) = i + 1 := by have := HI.out; have := hlen.out; unfold wrap64; omega
          have h2 := HI.out.2.2
          refine ⟨i + 1, congrArg _ hw, ⟨by have := HI.out; omega, by have := HI.out; omega, ?_⟩, ⟨pw_below_trans HB.out HB2.out⟩⟩
          rw [← h2, idxOf_step p l0 i.toNat x hx.out, if_neg (by simp [HPX.out]), show (i + 1).toNat = i.toNat + 1 from by have := HI.out; omega]
end Go.Proofs.YtphkionjjhhhlaaGreat.Q
end
section
namespace Go.Proofs.YtphkionjjhhhlaaGreat.Q
open Go.RowKit Go.Proofs.YtphkionjjhhhlaaGreatW.PrintWords Go.Proofs.YtphkionjjhhhlaaGreatW.PrintLast Go.Proofs.YtphkionjjhhhlaaGreatW.PrintMore
theorem enters_112 : ∀ (args : Array Value) (W : World), (callFunc 112 args).run Tryz.prog W = .ok (.enter 112 args) W := enters_of Tryz.func112 (by kernel_rfl) rfl
def item_find.f (l0 : List S68) (a1 : Int) : Option Int := some (idxOf (fun x => x.f0 == a1) l0)
set_option maxHeartbeats 8000000 in
set_option maxRecDepth 100000 in
theorem pred_112 (id : Int) (gb : Nat) (w : World) (hb : w.heap[gb]? = some (.cells #[.int .i64 id] 3 (0, 0))) : PredIn Tryz.prog 112 #[.pointer (some ⟨gb, 0, none⟩)] (fun W (x : S68) v => ∃ cs : List Value, v = .agg cs.toArray ∧ k68.K W x cs) (fun x => x.f0 == id) w := ⟨enters_112, fun W x v hW he => by
  obtain ⟨cs, rfl, hK⟩ := he
  obtain ⟨A2, c2, A3, c3, A4, c4, A9, c9, rfl, _⟩ := k68_open hK
  have hu68 := Tryz.underlying68
  have BK := (hW.block gb (blk_lt hb)).trans hb
  have k0 := (blk_cell BK 0).trans rfl
  have k1 : ∀ o : Obj, (W.alloc o).cell? ⟨gb, 0, none⟩ = some (.int .i64 id) := fun o => (World.cell?_alloc_lt W o _ (blk_lt BK)).trans k0
  clear k0
  clear hb hK BK hW
  simp only [List.append_toArray, List.cons_append, List.nil_append]
  go_enter Tryz.func112, Tryz.ntmps112
  go_wp2
  go_ret
  exact ⟨rfl, by repeat (first | exact Below.refl _ _ | apply below_alloc)⟩⟩
set_option maxHeartbeats 8000000 in
set_option maxRecDepth 100000 in
theorem item_find.calls (A0 : Option Addr) (c0 : Nat) (l0 : List S68) (a1 : Int) (r : Int) (w : World) (hr0 : Kd.C k68 w A0 l0.length l0) (hc0 : l0.length ≤ c0) (h : item_find.f l0 a1 = some r) :
    Calls Tryz.prog 55 #[.slice A0 l0.length c0, .int .i64 a1] w fun e w' => e = .returned (.int .i64 r) ∧ Below w.heap.size w w' := by
  have HR := Aside0.mk hr0
  clear hr0 hc0
  injection h with h
  subst h
  have hmf := makeFunc_run
  go_enter Tryz.func55, Tryz.ntmps55
  go_wp2_with (go_at_call 111; (with_reducible refine (IndexFunc_item.calls 112 #[.pointer (some ⟨w.heap.size, 0, none⟩)] (fun x => x.f0 == a1) A0 c0 l0 _ ?hC ?hP).mono ?_); (case hC => exact Kd.C_alloc HR.out _); (case hP => exact pred_112 a1 w.heap.size _ (heap_alloc_new w _)); rintro e w' ⟨rfl, hb⟩; have HBc := Aside0.mk (pw_below_trans (below_alloc (Below.refl _ _) _) hb); clear hb)
  go_ret
  exact ⟨rfl, HBc.out⟩
end Go.Proofs.YtphkionjjhhhlaaGreat.Q
end
section
namespace Go.Proofs.YtphkionjjhhhlaaGreat.Q
open Go.RowKit Go.Proofs.YtphkionjjhhhlaaGreatW.PrintWords Go.Proofs.YtphkionjjhhhlaaGreatW.PrintLast Go.Proofs.YtphkionjjhhhlaaGreatW.PrintMore
theorem enters_114 : ∀ (args : Array Value) (W : World), (callFunc 114 args).run Tryz.prog W = .ok (.enter 114 args) W := enters_of Tryz.func114 (by kernel_rfl) rfl
def findI (l : List S68) (id : Int) : Int := idxOf (fun x => x.f0 == id) l
def goL (l : List S68) (i : Int) (go : Int → List Bool → Option (Bool × List Bool)) : List Int → List Bool → Option (Bool × List Bool)
  | [], seen => some (false, seen)
  | id :: ids, seen =>
    if findI l id = i then some (true, seen)
    else if 0 ≤ findI l id ∧ findI l id < (seen.length : Int) then
      if rdOf false seen (findI l id) = true then goL l i go ids seen
      else (go (findI l id) (seen.set (findI l id).toNat true)).bind fun r => if r.1 = true then some r else goL l i go ids r.2
    else none
def walkN (l : List S68) (i : Int) : Nat → Int → List Bool → Option (Bool × List Bool)
  | 0, _, _ => none
  | f + 1, k, seen => if 0 ≤ k ∧ k < (l.length : Int) ∧ seen.length = l.length then goL l i (walkN l i f) (rd_T68 l k).f3 seen else none
structure LoopsW (w0 w : World) (g1 g2 g3 g4 gs : Nat) (A0 : Option Addr) (c0 cs : Nat) (l : List S68) (i : Int) (seen : List Bool) : Prop where
  b1 : w.heap[g1]? = some (.cells #[.slice A0 l.length c0] 35 (0, 0))
  b2 : w.heap[g2]? = some (.cells #[.int .i64 i] 3 (0, 0))
  b3 : w.heap[g3]? = some (.cells #[.slice (some ⟨gs, 0, none⟩) l.length cs] 93 (0, 0))
  b4 : w.heap[g4]? = some (.cells #[.func (.func 114) #[] #[.pointer (some ⟨g1, 0, none⟩), .pointer (some ⟨g2, 0, none⟩), .pointer (some ⟨g3, 0, none⟩), .pointer (some ⟨g4, 0, none⟩)]] 92 (0, 0))
  row : Kd.R Kd.bool 4 w w0.heap.size (fun _ => True) (.slice (some ⟨gs, 0, none⟩) l.length cs) seen
  len : seen.length = l.length
  below : Below w0.heap.size w0 w
theorem LoopsW.keep {w0 w w1 : World} {g1 g2 g3 g4 gs : Nat} {A0 : Option Addr} {c0 cs : Nat} {l : List S68} {i : Int} {seen : List Bool} (h : LoopsW w0 w g1 g2 g3 g4 gs A0 c0 cs l i seen) (hb : Below w.heap.size w w1) : LoopsW w0 w1 g1 g2 g3 g4 gs A0 c0 cs l i seen :=
  ⟨blk_below h.b1 hb, blk_below h.b2 hb, blk_below h.b3 hb, blk_below h.b4 hb, Kd.R_below h.row hb, h.len, pw_below_trans h.below hb⟩
theorem LoopsW.gs_ge {w0 w : World} {g1 g2 g3 g4 gs : Nat} {A0 : Option Addr} {c0 cs : Nat} {l : List S68} {i : Int} {seen : List Bool} (h : LoopsW w0 w g1 g2 g3 g4 gs A0 c0 cs l i seen) : w0.heap.size ≤ gs := by
  obtain ⟨inner, ho⟩ := Kd.R_own h.row
  exact own_base ho gs rfl
theorem LoopsW.see {w0 w : World} {g1 g2 g3 g4 gs : Nat} {A0 : Option Addr} {c0 cs : Nat} {l : List S68} {i : Int} {seen : List Bool} (h : LoopsW w0 w g1 g2 g3 g4 gs A0 c0 cs l i seen) (n : Int) : LoopsW w0 (w.setCell ⟨gs, n.toNat, none⟩ (.bool true)) g1 g2 g3 g4 gs A0 c0 cs l i (seen.set n.toNat true) := by
  have hp := Kd.R_putg h.row n true
  have ne : ∀ {g t : Nat} {cells : Array Value}, w.heap[g]? = some (.cells cells t (0, 0)) → 4 ≠ t → g ≠ gs := fun hb ht he => Kd.R_ne h.row hb ht (by simp [Value.ownBlock, he])
  exact ⟨blk_far h.b1 (ne h.b1 (by decide)) _, blk_far h.b2 (ne h.b2 (by decide)) _, blk_far h.b3 (ne h.b3 (by decide)) _, blk_far h.b4 (ne h.b4 (by decide)) _, hp.1, by rw [List.length_set]; exact h.len,
    h.below.grown hp.2 h.below.size (fun k hk => by have := h.gs_ge; injection hk with hk; omega)⟩
theorem goL_drop (l : List S68) (i : Int) (go : Int → List Bool → Option (Bool × List Bool)) (ids : List Int) (j : Nat) (id : Int) (seen : List Bool) (h : ids[j]? = some id) :
    goL l i go (ids.drop j) seen = if findI l id = i then some (true, seen)
    else if 0 ≤ findI l id ∧ findI l id < (seen.length : Int) then
      if rdOf false seen (findI l id) = true then goL l i go (ids.drop (j + 1)) seen
      else (go (findI l id) (seen.set (findI l id).toNat true)).bind fun r => if r.1 = true then some r else goL l i go (ids.drop (j + 1)) r.2
    else none := by
  obtain ⟨hl, he⟩ := List.getElem?_eq_some_iff.1 h
  rw [List.drop_eq_getElem_cons hl, he]
  rfl
set_option maxHeartbeats 16000000 in
set_option maxRecDepth 100000 in
theorem walk_any (l : List S68) (i : Int) (w0 : World) (A0 : Option Addr) (c0 : Nat) (hr0 : Kd.C k68 w0 A0 l.length l) (hc0 : l.length ≤ c0) (f : Nat) : ∀ (k : Int) (seen : List Bool) (r : Bool × List Bool) (w : World) (g1 g2 g3 g4 gs cs : Nat),
    LoopsW w0 w g1 g2 g3 g4 gs A0 c0 cs l i seen → walkN l i f k seen = some r →
    Calls Tryz.prog 114 #[.int .i64 k, .pointer (some ⟨g1, 0, none⟩), .pointer (some ⟨g2, 0, none⟩), .pointer (some ⟨g3, 0, none⟩), .pointer (some ⟨g4, 0, none⟩)] w
      fun e w' => e = .returned (.bool r.1) ∧ LoopsW w0 w' g1 g2 g3 g4 gs A0 c0 cs l i r.2 := by
  induction f with
  | zero => intro k seen r w g1 g2 g3 g4 gs cs _ h; cases h
  | succ f ih =>
    intro k seen r w g1 g2 g3 g4 gs cs hL h
    simp only [walkN] at h
    split at h
    case isFalse => cases h
    case isTrue hk =>
    obtain ⟨hk0, hk1, _⟩ := hk
    have HL := Aside0.mk hL
    have HR := Aside0.mk hr0
    have IH := Aside0.mk ih
    have HC0 := Aside0.mk hc0
    clear ih hr0 hL hc0
    obtain ⟨ad, A2, c2, A3, c3, A4, c4, A9, c9, e0, _, _, _, hx3, _, _, _, _, _, _, _, _, _, _, hl3, hi3, _⟩ := at_T68 HR.out k hk0 hk1
    cases e0
    replace hx3 := (HL.out.below.cell (World.block_lt_of_cell? w0 _ hx3)).trans hx3
    have HX := Aside0.mk hi3
    clear hl3 hi3
    have H := Aside0.mk h
    clear h
    generalize (rd_T68 l k).f3 = ids at *
    have k1 := (blk_cell HL.out.b1 0).trans rfl
    have hk0b : decide (0 ≤ k) = true := decide_eq_true hk0
    have hk1b : decide (k < (l.length : Int)) = true := decide_eq_true hk1
    have hen := enters_114
    replace hk0 := eq_true hk0
    replace hk1 := eq_true hk1
    go_enter Tryz.func114, Tryz.ntmps114
    go_wp2
    have HI : Aside0 (0 ≤ (0 : Int) ∧ (0 : Int) + (ids.length : Nat) = ids.length ∧ goL l i (walkN l i f) (ids.drop (0 : Int).toNat) seen = some r) := ⟨by omega, by omega, H.out⟩
    have hlen := Aside0.mk HX.out.2.1
    clear k1 hx3
    go_loopg [16] ids.length (fun kq v16 w' => ∃ (j : Int) (sn : List Bool), v16 = .int .i64 j ∧ Aside0 (0 ≤ j ∧ j + kq = ids.length ∧ goL l i (walkN l i f) (ids.drop j.toNat) sn = some r) ∧ Aside0 (LoopsW w0 w' g1 g2 g3 g4 gs (some ad) c0 cs l i sn))
    case atStart => exact ⟨0, seen, rfl, HI, HL⟩
    case round =>
      clear HI HL H
      obtain ⟨j, sn, rfl, HI, HL⟩ := hrel
      cases gk with
      | zero =>
        have hge : decide (j < (ids.length : Int)) = false := by have := HI.out; simp; omega
        have hr : r = (false, sn) := by
          have := HI.out.2.2
          rw [List.drop_eq_nil_of_le (by have := HI.out; omega)] at this
          exact (Option.some.inj this).symm
        subst hr
        go_wp2
        go_ret
        exact ⟨rfl, HL.out⟩
      | succ kq1 =>
        have h0 : 0 ≤ j := by have := HI.out; omega
        have h1 : j < (ids.length : Int) := by have := HI.out; omega
        have hge : decide (j < (ids.length : Int)) = true := decide_eq_true h1
        have hg0 : decide (0 ≤ j) = true := decide_eq_true h0
        obtain ⟨ad3, e3, hc⟩ := ReadsInt.at_ (Kd.reads_of_C (d := 0) HX.out : ReadsInt w0 .i64 A3 ids.length ids) j h0 h1
        cases e3
        replace hc := (HL.out.below.cell (World.block_lt_of_cell? w0 _ hc)).trans hc
        have hx : ids[j.toNat]? = some (rd ids j) := by
          have hl : j.toNat < ids.length := by omega
          simp [rd, List.getElem?_eq_getElem hl, List.getD_eq_getElem?_getD]
        have hst := HI.out.2.2
        rw [goL_drop l i _ ids j.toNat (rd ids j) sn hx] at hst
        clear hx
        generalize rd ids j = id at *
        have hw : Aside0 (wrap64 (j + 1) = j + 1 ∧ (j + 1).toNat = j.toNat + 1) := ⟨by have := HI.out; have := hlen.out; unfold wrap64; omega, by omega⟩
        replace h0 := eq_true h0
        replace h1 := eq_true h1
        have k1 := (blk_cell HL.out.b1 0).trans rfl
        have HF := Aside0.mk (item_find.calls (some ad) c0 l id (findI l id) wr (Kd.C_below HR.out HL.out.below) HC0.out rfl)
        generalize hn : findI l id = n at *
        clear hn
        by_cases hni : n = i
        · rw [if_pos hni] at hst
          obtain rfl := Option.some.inj hst
          subst hni
          have k2 := (blk_cell HL.out.b2 0).trans rfl
          have k2' : ∀ W : World, Below wr.heap.size wr W → W.cell? ⟨g2, 0, none⟩ = some (.int .i64 n) := fun W hb => (blk_cell (blk_below HL.out.b2 hb) 0).trans rfl
          have K2 := Aside0.mk k2'
          clear k2' hst
          have q1 : (n == n) = true := by simp
          go_wp2_with (go_at_call 55; (with_reducible refine HF.out.mono ?_); rintro e w' ⟨rfl, hb⟩; have HL2 := Aside0.mk (HL.out.keep hb); have k2 := (blk_cell HL2.out.b2 0).trans rfl; clear hb)
          go_ret
          exact ⟨rfl, HL2.out⟩
        · rw [if_neg hni] at hst
          split at hst
          case isFalse => cases hst
          case isTrue hb =>
          have q1 : (n == i) = false := by simp [hni]
          have q1' : decide (n = i) = false := by simp [hni]
          clear hni
          obtain ⟨hb0, hb1⟩ := hb
          rw [HL.out.len] at hb1
          have NB : Aside0 (0 ≤ n ∧ n < (l.length : Int)) := ⟨hb0, hb1⟩
          have hb0b : decide (0 ≤ n) = true := decide_eq_true hb0
          have hb1b : decide (n < (l.length : Int)) = true := decide_eq_true hb1
          replace hb0 := eq_true hb0
          replace hb1 := eq_true hb1
          by_cases hs : rdOf false sn n = true
          · rw [if_pos hs] at hst
            have SE := Aside0.mk hs
            have ST := Aside0.mk hst
            clear hs hst
            go_wp2_with (go_at_call 55; (with_reducible refine HF.out.mono ?_); rintro e w' ⟨rfl, hb⟩; have HL2 := Aside0.mk (HL.out.keep hb); have k2 := (blk_cell HL2.out.b2 0).trans rfl; have k3 := (blk_cell HL2.out.b3 0).trans rfl; obtain ⟨kc, kf⟩ := Kd.R_celln false HL2.out.row n NB.out.1 NB.out.2; simp only [SE.out] at kc; clear hb)
            go_roundg kq1
            case measure => omega
            case rel => exact ⟨j + 1, sn, congrArg _ hw.out.1, ⟨by have := HI.out; omega, by have := HI.out; omega, by rw [hw.out.2]; exact ST.out⟩, HL2⟩
          · rw [if_neg hs] at hst
            have SE : Aside0 (rdOf false sn n = false) := ⟨by simpa using hs⟩
            clear hs
            obtain ⟨r1, hr1, hst⟩ := Option.bind_eq_some_iff.1 hst
            have W1 := Aside0.mk hr1
            have ST := Aside0.mk hst
            clear hr1 hst
            cases hr1b : r1.1 with
            | true =>
              have R1 := Aside0.mk hr1b
              clear hr1b
              go_wp2_with (first | (go_at_call 55; (with_reducible refine HF.out.mono ?_); rintro e w' ⟨rfl, hb⟩; have HL2 := Aside0.mk (HL.out.keep hb); have k2 := (blk_cell HL2.out.b2 0).trans rfl; have k3 := (blk_cell HL2.out.b3 0).trans rfl; obtain ⟨kc, kf⟩ := Kd.R_celln false HL2.out.row n NB.out.1 NB.out.2; simp only [SE.out] at kc; have k4 := (blk_cell (HL2.out.see n).b4 0).trans rfl; have HL3 := Aside0.mk (HL2.out.see n); clear hb) | (go_at_call 114; (with_reducible refine (IH.out n _ r1 _ g1 g2 g3 g4 gs cs HL3.out W1.out).mono ?_); rintro e w4 ⟨rfl, hL4⟩; have HL4 := Aside0.mk hL4; clear hL4; rw [R1.out]))
              go_ret
              have hr := ST.out
              rw [if_pos R1.out] at hr
              obtain rfl := Option.some.inj hr
              exact ⟨by rw [R1.out]; rfl, HL4.out⟩
            | false =>
              have R1 := Aside0.mk hr1b
              clear hr1b
              go_wp2_with (first | (go_at_call 55; (with_reducible refine HF.out.mono ?_); rintro e w' ⟨rfl, hb⟩; have HL2 := Aside0.mk (HL.out.keep hb); have k2 := (blk_cell HL2.out.b2 0).trans rfl; have k3 := (blk_cell HL2.out.b3 0).trans rfl; obtain ⟨kc, kf⟩ := Kd.R_celln false HL2.out.row n NB.out.1 NB.out.2; simp only [SE.out] at kc; have k4 := (blk_cell (HL2.out.see n).b4 0).trans rfl; have HL3 := Aside0.mk (HL2.out.see n); clear hb) | (go_at_call 114; (with_reducible refine (IH.out n _ r1 _ g1 g2 g3 g4 gs cs HL3.out W1.out).mono ?_); rintro e w4 ⟨rfl, hL4⟩; have HL4 := Aside0.mk hL4; clear hL4; rw [R1.out]))
              go_roundg kq1
              case measure => omega
              case rel =>
                have hr := ST.out
                rw [if_neg (by simp [R1.out])] at hr
                exact ⟨j + 1, r1.2, congrArg _ hw.out.1, ⟨by have := HI.out; omega, by have := HI.out; omega, by rw [hw.out.2]; exact hr⟩, HL4⟩
end Go.Proofs.YtphkionjjhhhlaaGreat.Q
end
section
namespace Go.Proofs.YtphkionjjhhhlaaGreat.Q
open Go.RowKit Go.Proofs.YtphkionjjhhhlaaGreatW.PrintWords Go.Proofs.YtphkionjjhhhlaaGreatW.PrintLast Go.Proofs.YtphkionjjhhhlaaGreatW.PrintMore
def dioramaref15_find.l0 : Nat → List (S68) → Int → Int → Option (Int)
  | 0, _, _, _ => none
  | k + 1, x0, x1, x5 => if x5 < (x0.length : Int) then (if 0 ≤ x5 then (if ((rd_T68 x0 x5).f0) = x1 then (some x5) else (dioramaref15_find.l0 k x0 x1 (wrap64 (x5 + 1)))) else (none)) else (some (-1))
def dioramaref15_find.f (k : Nat) (l0 : List (S68)) (a1 : Int) : Option (Int) := dioramaref15_find.l0 k l0 a1 0
set_option maxHeartbeats 8000000 in
set_option maxRecDepth 100000 in
theorem dioramaref15_find.calls (k : Nat) (A0 : Option Addr) (c0 : Nat) (l0 : List (S68)) (a1 : Int) (r : Int) (w : World) (hr0 : Kd.C k68 w A0 l0.length l0) (hc0 : l0.length ≤ c0) (h : dioramaref15_find.f k l0 a1 = some r) :
    Calls Tryz.prog 61 #[.slice A0 l0.length c0, .int .i64 a1] w fun e w' => e = .returned (.int .i64 r) ∧ Drawn0 w w' := by
  have HR0 := Aside0.mk hr0
  have HC0 := Aside0.mk hc0
  clear hr0 hc0
  have H : (dioramaref15_find.l0 k l0 a1 0) = some r := h
  clear h
  have H' := Aside0.mk H
  clear H
  go_enter Tryz.func61, Tryz.ntmps61
  go_wp2
  go_loopg [5] k (fun kq v5 w' => ∃ (x5_1 : Int), v5 = .int .i64 x5_1 ∧ Aside0 (dioramaref15_find.l0 kq l0 a1 x5_1 = some r) ∧ Aside0 (kq ≤ k) ∧ Drawn0 w w')
  case atStart => exact ⟨(0), (by first | rfl | (simp; done) | (simp [*]; done)), H', ⟨Nat.le_refl _⟩, by repeat (first | exact Drawn0.refl _ | apply Drawn0.step)⟩
  case round =>
    clear H'
    try clear p2
    obtain ⟨x5_1, rfl, HA, HK1, ⟨m1, rfl⟩⟩ := hrel
    cases gk with
    | zero => exact absurd HA.out (by simp [dioramaref15_find.l0])
    | succ k1 =>
      have H := HA.out
      clear HA
      simp only [dioramaref15_find.l0] at H
      by_cases c3 : x5_1 < (l0.length : Int)
      · rw [if_pos c3] at H
        have c3b0 : decide (x5_1 < (l0.length : Int)) = true := decide_eq_true c3
        clear c3
        by_cases c4 : 0 ≤ x5_1
        · rw [if_pos c4] at H
          have c4b0 : decide (0 ≤ x5_1) = true := decide_eq_true c4
          clear c4
          by_cases c5 : ((rd_T68 l0 x5_1).f0) = a1
          · rw [if_pos c5] at H
            have c5b0 : (((rd_T68 l0 x5_1).f0) == a1) = true := beq_iff_eq.mpr c5
            have c5b1 : (((rd_T68 l0 x5_1).f0) != a1) = false := bne_eq_false_iff_eq.mpr c5
            clear c5
            obtain rfl := Option.some.inj H
            have p331 : 0 ≤ (x5_1 : Int) := of_decide_eq_true (by first | (with_reducible assumption) | assumption)
            have q331 : x5_1 < (l0.length : Int) := of_decide_eq_true (by first | (with_reducible assumption) | assumption)
            obtain ⟨ad331, A331_2, c331_2, A331_3, c331_3, A331_4, c331_4, A331_9, c331_9, e331, hx331_0, hx331_1, hx331_2, hx331_3, hx331_4, hx331_5, hx331_6, hx331_7, hx331_8, hx331_9, hx331_10, hx331_11, hl331_2, hi331_2, hl331_3, hi331_3, hl331_4, hi331_4, hl331_9, hi331_9⟩ := at_T68 HR0.out x5_1 p331 q331
            cases e331
            have HR331_2 := Aside0.mk hi331_2
            have HC331_2 := Aside0.mk hl331_2
            clear hi331_2 hl331_2
            have HR331_3 := Aside0.mk hi331_3
            have HC331_3 := Aside0.mk hl331_3
            clear hi331_3 hl331_3
            have HR331_4 := Aside0.mk hi331_4
            have HC331_4 := Aside0.mk hl331_4
            clear hi331_4 hl331_4
            have HR331_9 := Aside0.mk hi331_9
            have HC331_9 := Aside0.mk hl331_9
            clear hi331_9 hl331_9
            replace p331 := eq_true p331
            replace q331 := eq_true q331
            go_wp2
            go_ret
            exact ⟨by first | rfl | (simp; done) | (simp [*]; done), by repeat (first | exact Drawn0.refl _ | apply Drawn0.step)⟩
          · rw [if_neg c5] at H
            have c5b0 : (((rd_T68 l0 x5_1).f0) == a1) = false := beq_eq_false_iff_ne.mpr c5
            have c5b1 : (((rd_T68 l0 x5_1).f0) != a1) = true := bne_iff_ne.mpr c5
            have H' := Aside0.mk H
            clear H
            have p331 : 0 ≤ (x5_1 : Int) := of_decide_eq_true (by first | (with_reducible assumption) | assumption)
            have q331 : x5_1 < (l0.length : Int) := of_decide_eq_true (by first | (with_reducible assumption) | assumption)
            obtain ⟨ad331, A331_2, c331_2, A331_3, c331_3, A331_4, c331_4, A331_9, c331_9, e331, hx331_0, hx331_1, hx331_2, hx331_3, hx331_4, hx331_5, hx331_6, hx331_7, hx331_8, hx331_9, hx331_10, hx331_11, hl331_2, hi331_2, hl331_3, hi331_3, hl331_4, hi331_4, hl331_9, hi331_9⟩ := at_T68 HR0.out x5_1 p331 q331
            cases e331
            have HR331_2 := Aside0.mk hi331_2
            have HC331_2 := Aside0.mk hl331_2
            clear hi331_2 hl331_2
            have HR331_3 := Aside0.mk hi331_3
            have HC331_3 := Aside0.mk hl331_3
            clear hi331_3 hl331_3
            have HR331_4 := Aside0.mk hi331_4
            have HC331_4 := Aside0.mk hl331_4
            clear hi331_4 hl331_4
            have HR331_9 := Aside0.mk hi331_9
            have HC331_9 := Aside0.mk hl331_9
            clear hi331_9 hl331_9
            replace p331 := eq_true p331
            replace q331 := eq_true q331
            go_wp2
            go_roundg k1
            case measure => have := HK1.out; omega
            case rel => exact ⟨(wrap64 (x5_1 + 1)), (by first | rfl | (simp; done) | (simp [*]; done)), H', ⟨by have := HK1.out; omega⟩, by repeat (first | exact Drawn0.refl _ | apply Drawn0.step)⟩
        · rw [if_neg c4] at H
          exact absurd H (by simp)
      · rw [if_neg c3] at H
        have c3b0 : decide (x5_1 < (l0.length : Int)) = false := decide_eq_false c3
        clear c3
        obtain rfl := Option.some.inj H
        go_wp2
        go_ret
        exact ⟨by first | rfl | (simp; done) | (simp [*]; done), by repeat (first | exact Drawn0.refl _ | apply Drawn0.step)⟩
end Go.Proofs.YtphkionjjhhhlaaGreat.Q
end
section
namespace Go.Proofs.YtphkionjjhhhlaaGreat.Q
open Go.RowKit Go.Proofs.YtphkionjjhhhlaaGreatW.PrintWords Go.Proofs.YtphkionjjhhhlaaGreatW.PrintLast Go.Proofs.YtphkionjjhhhlaaGreatW.PrintMore
mutual
def dioramaref15_reached.l0 : Nat → List (S68) → List Bool → List Int → Option (List Bool)
  | 0, _, _, _ => none
  | k + 1, x0, x5, x6 => if (x6.length : Int) > 0 then (if 0 < (x6.length : Int) then (if 1 ≤ (x6.length : Int) then (dioramaref15_reached.l1 k x0 x5 (x6.drop (1 : Int).toNat) (rd x6 0) 0) else (none)) else (none)) else (some x5)
def dioramaref15_reached.l1 : Nat → List (S68) → List Bool → List Int → Int → Int → Option (List Bool)
  | 0, _, _, _, _, _ => none
  | k + 1, x0, x5, x6, x7, x8 => if 0 ≤ x7 then (if x7 < (x0.length : Int) then (if x8 < (((rd_T68 x0 x7).f3).length : Int) then (if 0 ≤ x8 then ((dioramaref15_find.f k x0 (rd ((rd_T68 x0 x7).f3) x8)).bind fun t345 => (if 0 ≤ t345 then (if t345 < (x5.length : Int) then (if rdOf false x5 t345 = true then (dioramaref15_reached.l1 k x0 x5 x6 x7 (wrap64 (x8 + 1))) else (if x6.length < 17592186044416 then (dioramaref15_reached.l1 k x0 (x5.set (t345 : Int).toNat true) (x6 ++ [t345]) x7 (wrap64 (x8 + 1))) else (none))) else (none)) else (none))) else (none)) else (dioramaref15_reached.l0 k x0 x5 x6)) else (none)) else (none)
end
def dioramaref15_reached.f (k : Nat) (l0 : List (S68)) (a1 : Int) : Option (List Bool) := if 0 ≤ (l0.length : Int) then (if ((l0.length : Int) : Int).toNat ≤ 281474976710656 then (dioramaref15_reached.l0 k l0 (List.replicate ((l0.length : Int) : Int).toNat false) (([a1] : List Int))) else (none)) else (none)
set_option maxHeartbeats 8000000 in
set_option maxRecDepth 100000 in
theorem dioramaref15_reached.calls (k : Nat) (A0 : Option Addr) (c0 : Nat) (l0 : List (S68)) (a1 : Int) (r : List Bool) (w : World) (hr0 : Kd.C k68 w A0 l0.length l0) (hc0 : l0.length ≤ c0) (h : dioramaref15_reached.f k l0 a1 = some r) :
    Calls Tryz.prog 62 #[.slice A0 l0.length c0, .int .i64 a1] w fun e w' => ∃ v0_ : Value, e = .returned (v0_) ∧ Kd.R Kd.bool 4 w' w.heap.size (fun _ => True) v0_ r ∧ Below w.heap.size w w' := by
  have HR0 := Aside0.mk hr0
  have HC0 := Aside0.mk hc0
  clear hr0 hc0
  have HB := Aside0.mk (Below.refl w.heap.size w)
  have H : (if 0 ≤ (l0.length : Int) then (if ((l0.length : Int) : Int).toNat ≤ 281474976710656 then (dioramaref15_reached.l0 k l0 (List.replicate ((l0.length : Int) : Int).toNat false) (([a1] : List Int))) else (none)) else (none)) = some r := h
  clear h
  by_cases c3 : 0 ≤ (l0.length : Int)
  · rw [if_pos c3] at H
    have c3b0 := eq_true c3
    have c3b1 : decide (0 ≤ (l0.length : Int)) = true := decide_eq_true c3
    clear c3
    by_cases c4 : ((l0.length : Int) : Int).toNat ≤ 281474976710656
    · rw [if_pos c4] at H
      have c4b0 := eq_true c4
      have c4b1 : decide (((l0.length : Int) : Int).toNat ≤ 281474976710656) = true := decide_eq_true c4
      clear c4
      obtain ⟨y332, hy332⟩ : ∃ y_ : List Bool, y_ = (List.replicate ((l0.length : Int) : Int).toNat false) := ⟨_, rfl⟩
      replace H : (dioramaref15_reached.l0 k l0 y332 (([a1] : List Int))) = some r := by first | (rw [hy332]; with_reducible exact H) | (have H2_ := (Option.bind_some _ _).symm.trans H; rw [hy332]; with_reducible exact H2_) | (have H2_ := (Option.bind_some _ _).symm.trans H; with_reducible exact H2_) | with_reducible exact H | (rw [hy332]; exact H) | exact H
      have Ny332 := Aside0.mk hy332
      clear hy332
      obtain ⟨y335, hy335⟩ : ∃ y_ : List Int, y_ = (([a1] : List Int)) := ⟨_, rfl⟩
      replace H : (dioramaref15_reached.l0 k l0 y332 y335) = some r := by first | (rw [hy335]; with_reducible exact H) | (have H2_ := (Option.bind_some _ _).symm.trans H; rw [hy335]; with_reducible exact H2_) | (have H2_ := (Option.bind_some _ _).symm.trans H; with_reducible exact H2_) | with_reducible exact H | (rw [hy335]; exact H) | exact H
      have Ny335 := Aside0.mk hy335
      clear hy335
      have H' := Aside0.mk H
      clear H
      go_enter Tryz.func62, Tryz.ntmps62
      go_wp2_with (first | ((with_reducible refine gate_dst (N := 12) rfl ?_); refine Kd.R_make Kd.bool _ 4 rfl (N := 12) rfl 93 _ _ rfl (l0.length : Int) rfl rfl Tryz.underlying93 (.bool false) 1 info4 rfl (by decide) (by omega) false (ok := fun _ => True) (okp := fun _ => True) rfl (fun _ hk => hk) trivial (of_decide_eq_true (by first | (with_reducible assumption) | assumption)) (Nat.le_trans (Nat.mul_le_mul_right _ (of_decide_eq_true (by first | (with_reducible assumption) | assumption) : (l0.length : Int).toNat ≤ 281474976710656)) (by omega)) (Below.refl _ _) (Nat.le_refl _) ?_; intro v333 w5 ho6 hb hg_ hnew_; clear hg_ hnew_; (first | rw [← Ny332.out] at ho6 | (simp only [Int.reduceToNat] at ho6; rw [← Ny332.out] at ho6)); have n0_ := Aside0.mk (Kd.R_lower ho6 (below_size (by repeat (first | (with_reducible first | exact HB.out | apply below_alloc | apply pw_below_drewN | apply below_drew1) | exact HB.out)))); have n1_ := Aside0.mk (below_step (by repeat (first | (with_reducible first | exact HB.out | apply below_alloc | apply pw_below_drewN | apply below_drew1) | exact HB.out)) hb); clear HB; have HO334 := n0_; have HB := n1_; clear n0_ n1_; clear hb ho6) | ((with_reducible refine gate_dst (N := 14) rfl ?_); refine Kd.R_lit (Kd.int .i64) _ 3 ?hg (N := 14) ?hd (xs := ([a1] : List Int)) (inner := [.int .i64 a1]) (ok := fun _ => True) (okp := fun _ => True) ?hr ?hp (fun _ hk => hk) trivial (Below.refl _ _) (Nat.le_refl _) (by simp) ?_; (case hd => rfl); (case hg => rfl); (case hr => first | (go_simp; done) | (go_simp; rfl)); (case hp => exact (Reps.one (show Kd.M (Kd.int .i64) _ _ _ a1 [.int .i64 a1] from rfl) (Reps.none _ _))); intro v336 w7 ho8 hb hg_ hnew_; clear hg_ hnew_; (first | rw [← Ny335.out] at ho8 | (simp only [Int.reduceToNat] at ho8; rw [← Ny335.out] at ho8)); have n0_ := Aside0.mk (Kd.R_below (by (with_reducible repeat (first | apply Kd.R_alloc | apply Kd.R_drewN | apply Kd.R_drew)); exact HO334.out) hb); have n1_ := Aside0.mk (Kd.R_lower ho8 (below_size (by repeat (first | (with_reducible first | exact HB.out | apply below_alloc | apply pw_below_drewN | apply below_drew1) | exact HB.out)))); have n2_ := Aside0.mk (below_step (by repeat (first | (with_reducible first | exact HB.out | apply below_alloc | apply pw_below_drewN | apply below_drew1) | exact HB.out)) hb); clear HO334; clear HB; have HO334 := n0_; have HO337 := n1_; have HB := n2_; clear n0_ n1_ n2_; clear hb ho8))
      go_loopg [6] k (fun kq v6 w' => ∃ (x5_1 : List Bool) (x6_1 : List Int), Aside0 (dioramaref15_reached.l0 kq l0 x5_1 x6_1 = some r) ∧ Aside0 (kq ≤ k) ∧ Aside0 (Kd.R Kd.bool 4 w' w.heap.size (fun _ => True) v333 x5_1) ∧ Aside0 (Kd.Q (Kd.int .i64) 3 w' w.heap.size (fun _ => True) v6 x6_1) ∧ Aside0 (Below w.heap.size w w'))
      case atStart => exact ⟨(y332), (y335), H', ⟨Nat.le_refl _⟩, ⟨by (with_reducible repeat (first | apply Kd.R_alloc | apply Kd.R_drewN | apply Kd.R_drew)); exact HO334.out⟩, ⟨Kd.Q_of_R (by (with_reducible repeat (first | apply Kd.R_alloc | apply Kd.R_drewN | apply Kd.R_drew)); exact HO337.out)⟩, ⟨by repeat (first | (with_reducible first | exact HB.out | apply below_alloc | apply pw_below_drewN | apply below_drew1) | exact HB.out)⟩⟩
      case round =>
        clear H'
        try clear p2
        try clear c3
        try clear c3b0
        try clear c3b1
        try clear c4
        try clear c4b0
        try clear c4b1
        try clear c6
        obtain ⟨x5_1, x6_1, HA, HK1, HO_5, HO_6, HB⟩ := hrel
        cases gk with
        | zero => exact absurd HA.out (by simp [dioramaref15_reached.l0])
        | succ k1 =>
          have H := HA.out
          clear HA
          simp only [dioramaref15_reached.l0] at H
          by_cases c9 : (x6_1.length : Int) > 0
          · rw [if_pos c9] at H
            have c9b0 : decide (0 < (x6_1.length : Int)) = true := decide_eq_true c9
            have c9b1 : decide (0 < x6_1.length) = true := decide_eq_true (by omega)
            clear c9
            by_cases c10 : 0 < (x6_1.length : Int)
            · rw [if_pos c10] at H
              have c10b0 : decide (0 < (x6_1.length : Int)) = true := decide_eq_true c10
              have c10b1 : decide (0 < x6_1.length) = true := decide_eq_true (by omega)
              clear c10
              by_cases c11 : 1 ≤ (x6_1.length : Int)
              · rw [if_pos c11] at H
                have c11b0 := eq_true c11
                have c11b1 : decide (1 ≤ (x6_1.length : Int)) = true := decide_eq_true c11
                clear c11
                obtain ⟨y339, hy339⟩ : ∃ y_ : List Int, y_ = (x6_1.drop (1 : Int).toNat) := ⟨_, rfl⟩
                replace H : (dioramaref15_reached.l1 k1 l0 x5_1 y339 (rd x6_1 0) 0) = some r := by first | (rw [hy339]; with_reducible exact H) | (have H2_ := (Option.bind_some _ _).symm.trans H; rw [hy339]; with_reducible exact H2_) | (have H2_ := (Option.bind_some _ _).symm.trans H; with_reducible exact H2_) | with_reducible exact H | (rw [hy339]; exact H) | exact H
                have Ny339 := Aside0.mk hy339
                clear hy339
                have H' := Aside0.mk H
                clear H
                obtain ⟨Ao12, co12, eo12, _⟩ := Kd.Q_slice HO_6.out
                subst eo12
                have p338 : 0 ≤ (0 : Int) := (by omega)
                have q338 : 0 < (x6_1.length : Int) := of_decide_eq_true (by first | (with_reducible assumption) | assumption)
                obtain ⟨ad338, e338, hx338_0⟩ := Kd.at_int (Kd.Q_reads' HO_6.out).2.2 0 p338 q338
                cases e338
                have qi338 : (0 < x6_1.length) = True := eq_true (by omega)
                (try rw [show ((0 : Int)).toNat = 0 from rfl] at hx338_0)
                (try rw [Addr.add_zero'] at hx338_0)
                replace p338 := eq_true p338
                replace q338 := eq_true q338
                have q13 : (1 : Int) ≤ ((x6_1.length : Int) : Int) := of_decide_eq_true (by first | (with_reducible assumption) | assumption)
                obtain ⟨i013, hi013, _, hsz13, _⟩ := info_parts info3
                have hcut13 := cut_from (P := Tryz.prog) 39 3 .i64 Tryz.underlying39 hi013 1 hsz13 (some ad338) x6_1.length co12 1 (by omega) q13
                have hr13 := Kd.Q_drop (k := (1 : Int).toNat) HO_6.out (by omega)
                obtain ⟨A13, hA13⟩ : ∃ A1, A1 = (if co12 = (1 : Int).toNat then (some ad338) else ((some ad338) : Option Addr).map (·.add ((1 : Int).toNat * 1))) := ⟨_, rfl⟩
                obtain ⟨c13, hc13⟩ : ∃ c1, c1 = co12 - (1 : Int).toNat := ⟨_, rfl⟩
                have hy13 : y339.length = x6_1.length - (1 : Int).toNat := (by rw [Ny339.out, List.length_drop])
                rw [← Ny339.out] at hr13
                rw [← hy13, ← hA13, ← hc13] at hcut13
                replace hr13 : Kd.Q (Kd.int .i64) 3 wr w.heap.size (fun _ => True) (.slice A13 y339.length c13) y339 := (by rw [hA13, hc13, hy13]; exact hr13)
                have HE13 : Aside0 ((Value.slice A13 y339.length c13).ownBlock = (.slice (some ad338) x6_1.length co12 : Value).ownBlock) := ⟨by rw [hA13]; split <;> (cases ((some ad338) : Option Addr) <;> rfl)⟩
                clear hy13 hi013 hsz13 HO_6 hA13 hc13
                have HO341 := Aside0.mk hr13
                clear hr13
                replace q13 := eq_true q13
                go_wp2
                go_loopg [6, 8] k1 (fun kq v6 v8 w' => ∃ (x5_2 : List Bool) (x6_2 : List Int) (x8_2 : Int), v8 = .int .i64 x8_2 ∧ Aside0 (dioramaref15_reached.l1 kq l0 x5_2 x6_2 (rd x6_1 0) x8_2 = some r) ∧ Aside0 (kq ≤ k1) ∧ Aside0 (Kd.R Kd.bool 4 w' w.heap.size (fun _ => True) v333 x5_2) ∧ Aside0 (Kd.Q (Kd.int .i64) 3 w' w.heap.size (fun _ => True) v6 x6_2) ∧ Aside0 (Below w.heap.size w w'))
                case atStart => exact ⟨(x5_1), (y339), (0), (by first | rfl | (simp; done) | (simp [*]; done)), H', ⟨Nat.le_refl _⟩, ⟨by (with_reducible repeat (first | apply Kd.R_alloc | apply Kd.R_drewN | apply Kd.R_drew)); exact HO_5.out⟩, ⟨by (with_reducible repeat (first | apply Kd.Q_alloc | apply Kd.Q_drewN | apply Kd.Q_drew)); exact HO341.out⟩, ⟨by repeat (first | (with_reducible first | exact HB.out | apply below_alloc | apply pw_below_drewN | apply below_drew1) | exact HB.out)⟩⟩
                case round =>
                  clear H'
                  try clear c1
                  try clear q1
                  try clear p2
                  try clear c3
                  try clear c3b0
                  try clear c3b1
                  try clear p3
                  try clear q3
                  try clear hx3
                  try clear qi3
                  try clear c4
                  try clear c4b0
                  try clear c4b1
                  try clear c6
                  try clear c9
                  try clear c9b0
                  try clear c9b1
                  try clear c10
                  try clear c10b0
                  try clear c10b1
                  try clear c11
                  try clear c11b0
                  try clear c11b1
                  try clear c13
                  try clear q13
                  try clear hx338_0
                  try clear p2
                  try clear p338
                  try clear q13
                  try clear q338
                  obtain ⟨x5_2, x6_2, x8_2, rfl, HA, HK2, HO_5, HO_6, HB⟩ := hrel
                  cases gk with
                  | zero => exact absurd HA.out (by simp [dioramaref15_reached.l1])
                  | succ k2 =>
                    have H := HA.out
                    clear HA
                    simp only [dioramaref15_reached.l1] at H
                    by_cases c14 : 0 ≤ (rd x6_1 0)
                    · rw [if_pos c14] at H
                      have c14b0 : decide (0 ≤ (rd x6_1 0)) = true := decide_eq_true c14
                      clear c14
                      by_cases c15 : (rd x6_1 0) < (l0.length : Int)
                      · rw [if_pos c15] at H
                        have c15b0 : decide ((rd x6_1 0) < (l0.length : Int)) = true := decide_eq_true c15
                        clear c15
                        by_cases c16 : x8_2 < (((rd_T68 l0 (rd x6_1 0)).f3).length : Int)
                        · rw [if_pos c16] at H
                          have c16b0 : decide (x8_2 < (((rd_T68 l0 (rd x6_1 0)).f3).length : Int)) = true := decide_eq_true c16
                          clear c16
                          by_cases c17 : 0 ≤ x8_2
                          · rw [if_pos c17] at H
                            have c17b0 : decide (0 ≤ x8_2) = true := decide_eq_true c17
                            clear c17
                            replace H := Option.bind_eq_some_iff.mp H
                            obtain ⟨t345, A180, H⟩ := H
                            replace H : (if 0 ≤ t345 then (if t345 < (x5_2.length : Int) then (if rdOf false x5_2 t345 = true then (dioramaref15_reached.l1 k2 l0 x5_2 x6_2 (rd x6_1 0) (wrap64 (x8_2 + 1))) else (if x6_2.length < 17592186044416 then (dioramaref15_reached.l1 k2 l0 (x5_2.set (t345 : Int).toNat true) (x6_2 ++ [t345]) (rd x6_1 0) (wrap64 (x8_2 + 1))) else (none))) else (none)) else (none)) = some r := H
                            have A18 := Aside0.mk A180
                            clear A180
                            by_cases c19 : 0 ≤ t345
                            · rw [if_pos c19] at H
                              have c19b0 : decide (0 ≤ t345) = true := decide_eq_true c19
                              clear c19
                              by_cases c20 : t345 < (x5_2.length : Int)
                              · rw [if_pos c20] at H
                                have c20b0 : decide (t345 < (x5_2.length : Int)) = true := decide_eq_true c20
                                clear c20
                                obtain ⟨bq21, hbq21⟩ : ∃ b_ : Bool, b_ = (rdOf false x5_2 t345) := ⟨_, rfl⟩
                                replace H : (if bq21 = true then (dioramaref15_reached.l1 k2 l0 x5_2 x6_2 (rd x6_1 0) (wrap64 (x8_2 + 1))) else (if x6_2.length < 17592186044416 then (dioramaref15_reached.l1 k2 l0 (x5_2.set (t345 : Int).toNat true) (x6_2 ++ [t345]) (rd x6_1 0) (wrap64 (x8_2 + 1))) else (none))) = some r := by rw [← hbq21] at H; exact H
                                have Nbq21 := Aside0.mk hbq21
                                clear hbq21
                                by_cases c22 : bq21 = true
                                · subst c22
                                  have H1 : (dioramaref15_reached.l1 k2 l0 x5_2 x6_2 (rd x6_1 0) (wrap64 (x8_2 + 1))) = some r := by rw [if_pos rfl] at H; exact H
                                  clear H
                                  have H := H1
                                  clear H1
                                  have H' := Aside0.mk H
                                  clear H
                                  have p342 : 0 ≤ ((rd x6_1 0) : Int) := of_decide_eq_true (by first | (with_reducible assumption) | assumption)
                                  have q342 : (rd x6_1 0) < (l0.length : Int) := of_decide_eq_true (by first | (with_reducible assumption) | assumption)
                                  obtain ⟨ad342, A342_2, c342_2, A342_3, c342_3, A342_4, c342_4, A342_9, c342_9, e342, hx342_0, hx342_1, hx342_2, hx342_3, hx342_4, hx342_5, hx342_6, hx342_7, hx342_8, hx342_9, hx342_10, hx342_11, hl342_2, hi342_2, hl342_3, hi342_3, hl342_4, hi342_4, hl342_9, hi342_9⟩ := at_T68 HR0.out (rd x6_1 0) p342 q342
                                  (try rw [← Nbq21.out] at hx342_11)
                                  cases e342
                                  replace hx342_0 := (HB.out.cell (World.block_lt_of_cell? w _ hx342_0)).trans hx342_0
                                  replace hx342_1 := (HB.out.cell (World.block_lt_of_cell? w _ hx342_1)).trans hx342_1
                                  replace hx342_2 := (HB.out.cell (World.block_lt_of_cell? w _ hx342_2)).trans hx342_2
                                  replace hx342_3 := (HB.out.cell (World.block_lt_of_cell? w _ hx342_3)).trans hx342_3
                                  replace hx342_4 := (HB.out.cell (World.block_lt_of_cell? w _ hx342_4)).trans hx342_4
                                  replace hx342_5 := (HB.out.cell (World.block_lt_of_cell? w _ hx342_5)).trans hx342_5
                                  replace hx342_6 := (HB.out.cell (World.block_lt_of_cell? w _ hx342_6)).trans hx342_6
                                  replace hx342_7 := (HB.out.cell (World.block_lt_of_cell? w _ hx342_7)).trans hx342_7
                                  replace hx342_8 := (HB.out.cell (World.block_lt_of_cell? w _ hx342_8)).trans hx342_8
                                  replace hx342_9 := (HB.out.cell (World.block_lt_of_cell? w _ hx342_9)).trans hx342_9
                                  replace hx342_10 := (HB.out.cell (World.block_lt_of_cell? w _ hx342_10)).trans hx342_10
                                  replace hx342_11 := (HB.out.cell (World.block_lt_of_cell? w _ hx342_11)).trans hx342_11
                                  have HR342_2 := Aside0.mk hi342_2
                                  have HC342_2 := Aside0.mk hl342_2
                                  clear hi342_2 hl342_2
                                  have HR342_3 := Aside0.mk hi342_3
                                  have HC342_3 := Aside0.mk hl342_3
                                  clear hi342_3 hl342_3
                                  have HR342_4 := Aside0.mk hi342_4
                                  have HC342_4 := Aside0.mk hl342_4
                                  clear hi342_4 hl342_4
                                  have HR342_9 := Aside0.mk hi342_9
                                  have HC342_9 := Aside0.mk hl342_9
                                  clear hi342_9 hl342_9
                                  replace p342 := eq_true p342
                                  replace q342 := eq_true q342
                                  have p343 : 0 ≤ ((rd x6_1 0) : Int) := of_decide_eq_true (by first | (with_reducible assumption) | assumption)
                                  have q343 : (rd x6_1 0) < (l0.length : Int) := of_decide_eq_true (by first | (with_reducible assumption) | assumption)
                                  obtain ⟨ad343, A343_2, c343_2, A343_3, c343_3, A343_4, c343_4, A343_9, c343_9, e343, hx343_0, hx343_1, hx343_2, hx343_3, hx343_4, hx343_5, hx343_6, hx343_7, hx343_8, hx343_9, hx343_10, hx343_11, hl343_2, hi343_2, hl343_3, hi343_3, hl343_4, hi343_4, hl343_9, hi343_9⟩ := at_T68 HR0.out (rd x6_1 0) p343 q343
                                  (try rw [← Nbq21.out] at hx343_11)
                                  obtain rfl : ad342 = ad343 := (by injection e343)
                                  replace hx343_0 := (HB.out.cell (World.block_lt_of_cell? w _ hx343_0)).trans hx343_0
                                  replace hx343_1 := (HB.out.cell (World.block_lt_of_cell? w _ hx343_1)).trans hx343_1
                                  replace hx343_2 := (HB.out.cell (World.block_lt_of_cell? w _ hx343_2)).trans hx343_2
                                  replace hx343_3 := (HB.out.cell (World.block_lt_of_cell? w _ hx343_3)).trans hx343_3
                                  replace hx343_4 := (HB.out.cell (World.block_lt_of_cell? w _ hx343_4)).trans hx343_4
                                  replace hx343_5 := (HB.out.cell (World.block_lt_of_cell? w _ hx343_5)).trans hx343_5
                                  replace hx343_6 := (HB.out.cell (World.block_lt_of_cell? w _ hx343_6)).trans hx343_6
                                  replace hx343_7 := (HB.out.cell (World.block_lt_of_cell? w _ hx343_7)).trans hx343_7
                                  replace hx343_8 := (HB.out.cell (World.block_lt_of_cell? w _ hx343_8)).trans hx343_8
                                  replace hx343_9 := (HB.out.cell (World.block_lt_of_cell? w _ hx343_9)).trans hx343_9
                                  replace hx343_10 := (HB.out.cell (World.block_lt_of_cell? w _ hx343_10)).trans hx343_10
                                  replace hx343_11 := (HB.out.cell (World.block_lt_of_cell? w _ hx343_11)).trans hx343_11
                                  have HR343_2 := Aside0.mk hi343_2
                                  have HC343_2 := Aside0.mk hl343_2
                                  clear hi343_2 hl343_2
                                  have HR343_3 := Aside0.mk hi343_3
                                  have HC343_3 := Aside0.mk hl343_3
                                  clear hi343_3 hl343_3
                                  have HR343_4 := Aside0.mk hi343_4
                                  have HC343_4 := Aside0.mk hl343_4
                                  clear hi343_4 hl343_4
                                  have HR343_9 := Aside0.mk hi343_9
                                  have HC343_9 := Aside0.mk hl343_9
                                  clear hi343_9 hl343_9
                                  replace p343 := eq_true p343
                                  replace q343 := eq_true q343
                                  have ea_ := Option.some.inj (hx342_2.symm.trans hx343_2)
                                  injection ea_ with ea_ en_ ec_
                                  subst ea_
                                  subst ec_
                                  clear en_
                                  have ea_ := Option.some.inj (hx342_3.symm.trans hx343_3)
                                  injection ea_ with ea_ en_ ec_
                                  subst ea_
                                  subst ec_
                                  clear en_
                                  have ea_ := Option.some.inj (hx342_4.symm.trans hx343_4)
                                  injection ea_ with ea_ en_ ec_
                                  subst ea_
                                  subst ec_
                                  clear en_
                                  have ea_ := Option.some.inj (hx342_9.symm.trans hx343_9)
                                  injection ea_ with ea_ en_ ec_
                                  subst ea_
                                  subst ec_
                                  clear en_
                                  have p344 : 0 ≤ (x8_2 : Int) := of_decide_eq_true (by first | (with_reducible assumption) | assumption)
                                  have q344 : x8_2 < (((rd_T68 l0 (rd x6_1 0)).f3).length : Int) := of_decide_eq_true (by first | (with_reducible assumption) | assumption)
                                  obtain ⟨ad344, e344, hx344_0⟩ := Kd.at_int HR343_3.out x8_2 p344 q344
                                  cases e344
                                  replace hx344_0 := (HB.out.cell (World.block_lt_of_cell? w _ hx344_0)).trans hx344_0
                                  replace p344 := eq_true p344
                                  replace q344 := eq_true q344
                                  go_wp2_with (first | ((with_reducible refine gate_callee (f := 61) rfl ?_); refine goesL_ (some 42) rfl rfl Tryz.func61 (by kernel_rfl) rfl #[.slice (some ad342) l0.length c0, .int .i64 (rd ((rd_T68 l0 (rd x6_1 0)).f3) x8_2)] rfl (by (try simp only [List.map_toArray, List.map_cons, List.map_nil]); first | done | rfl | (simp only [List.length_drop, List.length_take]; rfl)) ?_; (with_reducible refine (dioramaref15_find.calls k2 _ _ l0 (rd ((rd_T68 l0 (rd x6_1 0)).f3) x8_2) t345 _ ?side1 ?side2 A18.out).mono ?_); (case side1 => repeat (first | exact (Kd.C_below HR0.out HB.out) | (with_reducible refine Kd.C_alloc ?_ _) | (with_reducible refine Kd.C_drewN ?_ _) | (with_reducible refine Kd.C_drew ?_))); (case side2 => exact HC0.out); rintro e w' ⟨rfl, ⟨nd, rfl⟩⟩; refine ⟨_, rfl, ?_⟩; obtain ⟨Ao23, co23, eo23⟩ := Kd.R_slice HO_5.out; subst eo23; have p346 : 0 ≤ (t345 : Int) := of_decide_eq_true (by first | (with_reducible assumption) | assumption); have q346 : t345 < (x5_2.length : Int) := of_decide_eq_true (by first | (with_reducible assumption) | assumption); obtain ⟨ad346, e346, hx346_0⟩ := Kd.at_bool (Kd.R_reads' HO_5.out).2.2 t345 p346 q346; (try rw [← Nbq21.out] at hx346_0); cases e346; replace p346 := eq_true p346; replace q346 := eq_true q346))
                                  go_roundg k2
                                  case measure => have := HK1.out; have := HK2.out; omega
                                  case rel => exact ⟨(x5_2), (x6_2), (wrap64 (x8_2 + 1)), (by first | rfl | (simp; done) | (simp [*]; done)), H', ⟨by have := HK1.out; have := HK2.out; omega⟩, ⟨by (with_reducible repeat (first | apply Kd.R_alloc | apply Kd.R_drewN | apply Kd.R_drew)); exact HO_5.out⟩, ⟨by (with_reducible repeat (first | apply Kd.Q_alloc | apply Kd.Q_drewN | apply Kd.Q_drew)); exact HO_6.out⟩, ⟨by repeat (first | (with_reducible first | exact HB.out | apply below_alloc | apply pw_below_drewN | apply below_drew1) | exact HB.out)⟩⟩
                                · replace c22 := Bool.eq_false_iff.mpr c22
                                  subst c22
                                  have H1 : (if x6_2.length < 17592186044416 then (dioramaref15_reached.l1 k2 l0 (x5_2.set (t345 : Int).toNat true) (x6_2 ++ [t345]) (rd x6_1 0) (wrap64 (x8_2 + 1))) else (none)) = some r := by rw [if_neg (show ¬ (false = true) by decide)] at H; exact H
                                  clear H
                                  have H := H1
                                  clear H1
                                  obtain ⟨y347, hy347⟩ : ∃ y_ : List Bool, y_ = (x5_2.set (t345 : Int).toNat true) := ⟨_, rfl⟩
                                  replace H : (if x6_2.length < 17592186044416 then (dioramaref15_reached.l1 k2 l0 y347 (x6_2 ++ [t345]) (rd x6_1 0) (wrap64 (x8_2 + 1))) else (none)) = some r := by first | (rw [hy347]; with_reducible exact H) | (have H2_ := (Option.bind_some _ _).symm.trans H; rw [hy347]; with_reducible exact H2_) | (have H2_ := (Option.bind_some _ _).symm.trans H; with_reducible exact H2_) | with_reducible exact H | (rw [hy347]; exact H) | exact H
                                  have Ny347 := Aside0.mk hy347
                                  clear hy347
                                  by_cases c25 : x6_2.length < 17592186044416
                                  · rw [if_pos c25] at H
                                    have LMc25 := Aside0.mk c25
                                    clear c25
                                    obtain ⟨y348, hy348⟩ : ∃ y_ : List Int, y_ = (x6_2 ++ [t345]) := ⟨_, rfl⟩
                                    replace H : (dioramaref15_reached.l1 k2 l0 y347 y348 (rd x6_1 0) (wrap64 (x8_2 + 1))) = some r := by first | (rw [hy348]; with_reducible exact H) | (have H2_ := (Option.bind_some _ _).symm.trans H; rw [hy348]; with_reducible exact H2_) | (have H2_ := (Option.bind_some _ _).symm.trans H; with_reducible exact H2_) | with_reducible exact H | (rw [hy348]; exact H) | exact H
                                    have Ny348 := Aside0.mk hy348
                                    clear hy348
                                    have H' := Aside0.mk H
                                    clear H
                                    have p342 : 0 ≤ ((rd x6_1 0) : Int) := of_decide_eq_true (by first | (with_reducible assumption) | assumption)
                                    have q342 : (rd x6_1 0) < (l0.length : Int) := of_decide_eq_true (by first | (with_reducible assumption) | assumption)
                                    obtain ⟨ad342, A342_2, c342_2, A342_3, c342_3, A342_4, c342_4, A342_9, c342_9, e342, hx342_0, hx342_1, hx342_2, hx342_3, hx342_4, hx342_5, hx342_6, hx342_7, hx342_8, hx342_9, hx342_10, hx342_11, hl342_2, hi342_2, hl342_3, hi342_3, hl342_4, hi342_4, hl342_9, hi342_9⟩ := at_T68 HR0.out (rd x6_1 0) p342 q342
                                    (try rw [← Nbq21.out] at hx342_11)
                                    cases e342
                                    replace hx342_0 := (HB.out.cell (World.block_lt_of_cell? w _ hx342_0)).trans hx342_0
                                    replace hx342_1 := (HB.out.cell (World.block_lt_of_cell? w _ hx342_1)).trans hx342_1
                                    replace hx342_2 := (HB.out.cell (World.block_lt_of_cell? w _ hx342_2)).trans hx342_2
                                    replace hx342_3 := (HB.out.cell (World.block_lt_of_cell? w _ hx342_3)).trans hx342_3
                                    replace hx342_4 := (HB.out.cell (World.block_lt_of_cell? w _ hx342_4)).trans hx342_4
                                    replace hx342_5 := (HB.out.cell (World.block_lt_of_cell? w _ hx342_5)).trans hx342_5
                                    replace hx342_6 := (HB.out.cell (World.block_lt_of_cell? w _ hx342_6)).trans hx342_6
                                    replace hx342_7 := (HB.out.cell (World.block_lt_of_cell? w _ hx342_7)).trans hx342_7
                                    replace hx342_8 := (HB.out.cell (World.block_lt_of_cell? w _ hx342_8)).trans hx342_8
                                    replace hx342_9 := (HB.out.cell (World.block_lt_of_cell? w _ hx342_9)).trans hx342_9
                                    replace hx342_10 := (HB.out.cell (World.block_lt_of_cell? w _ hx342_10)).trans hx342_10
                                    replace hx342_11 := (HB.out.cell (World.block_lt_of_cell? w _ hx342_11)).trans hx342_11
                                    have HR342_2 := Aside0.mk hi342_2
                                    have HC342_2 := Aside0.mk hl342_2
                                    clear hi342_2 hl342_2
                                    have HR342_3 := Aside0.mk hi342_3
                                    have HC342_3 := Aside0.mk hl342_3
                                    clear hi342_3 hl342_3
                                    have HR342_4 := Aside0.mk hi342_4
                                    have HC342_4 := Aside0.mk hl342_4
                                    clear hi342_4 hl342_4
                                    have HR342_9 := Aside0.mk hi342_9
                                    have HC342_9 := Aside0.mk hl342_9
                                    clear hi342_9 hl342_9
                                    replace p342 := eq_true p342
                                    replace q342 := eq_true q342
                                    have p343 : 0 ≤ ((rd x6_1 0) : Int) := of_decide_eq_true (by first | (with_reducible assumption) | assumption)
                                    have q343 : (rd x6_1 0) < (l0.length : Int) := of_decide_eq_true (by first | (with_reducible assumption) | assumption)
                                    obtain ⟨ad343, A343_2, c343_2, A343_3, c343_3, A343_4, c343_4, A343_9, c343_9, e343, hx343_0, hx343_1, hx343_2, hx343_3, hx343_4, hx343_5, hx343_6, hx343_7, hx343_8, hx343_9, hx343_10, hx343_11, hl343_2, hi343_2, hl343_3, hi343_3, hl343_4, hi343_4, hl343_9, hi343_9⟩ := at_T68 HR0.out (rd x6_1 0) p343 q343
                                    (try rw [← Nbq21.out] at hx343_11)
                                    obtain rfl : ad342 = ad343 := (by injection e343)
                                    replace hx343_0 := (HB.out.cell (World.block_lt_of_cell? w _ hx343_0)).trans hx343_0
                                    replace hx343_1 := (HB.out.cell (World.block_lt_of_cell? w _ hx343_1)).trans hx343_1
                                    replace hx343_2 := (HB.out.cell (World.block_lt_of_cell? w _ hx343_2)).trans hx343_2
                                    replace hx343_3 := (HB.out.cell (World.block_lt_of_cell? w _ hx343_3)).trans hx343_3
                                    replace hx343_4 := (HB.out.cell (World.block_lt_of_cell? w _ hx343_4)).trans hx343_4
                                    replace hx343_5 := (HB.out.cell (World.block_lt_of_cell? w _ hx343_5)).trans hx343_5
                                    replace hx343_6 := (HB.out.cell (World.block_lt_of_cell? w _ hx343_6)).trans hx343_6
                                    replace hx343_7 := (HB.out.cell (World.block_lt_of_cell? w _ hx343_7)).trans hx343_7
                                    replace hx343_8 := (HB.out.cell (World.block_lt_of_cell? w _ hx343_8)).trans hx343_8
                                    replace hx343_9 := (HB.out.cell (World.block_lt_of_cell? w _ hx343_9)).trans hx343_9
                                    replace hx343_10 := (HB.out.cell (World.block_lt_of_cell? w _ hx343_10)).trans hx343_10
                                    replace hx343_11 := (HB.out.cell (World.block_lt_of_cell? w _ hx343_11)).trans hx343_11
                                    have HR343_2 := Aside0.mk hi343_2
                                    have HC343_2 := Aside0.mk hl343_2
                                    clear hi343_2 hl343_2
                                    have HR343_3 := Aside0.mk hi343_3
                                    have HC343_3 := Aside0.mk hl343_3
                                    clear hi343_3 hl343_3
                                    have HR343_4 := Aside0.mk hi343_4
                                    have HC343_4 := Aside0.mk hl343_4
                                    clear hi343_4 hl343_4
                                    have HR343_9 := Aside0.mk hi343_9
                                    have HC343_9 := Aside0.mk hl343_9
                                    clear hi343_9 hl343_9
                                    replace p343 := eq_true p343
                                    replace q343 := eq_true q343
                                    have ea_ := Option.some.inj (hx342_2.symm.trans hx343_2)
                                    injection ea_ with ea_ en_ ec_
                                    subst ea_
                                    subst ec_
                                    clear en_
                                    have ea_ := Option.some.inj (hx342_3.symm.trans hx343_3)
                                    injection ea_ with ea_ en_ ec_
                                    subst ea_
                                    subst ec_
                                    clear en_
                                    have ea_ := Option.some.inj (hx342_4.symm.trans hx343_4)
                                    injection ea_ with ea_ en_ ec_
                                    subst ea_
                                    subst ec_
                                    clear en_
                                    have ea_ := Option.some.inj (hx342_9.symm.trans hx343_9)
                                    injection ea_ with ea_ en_ ec_
                                    subst ea_
                                    subst ec_
                                    clear en_
                                    have p344 : 0 ≤ (x8_2 : Int) := of_decide_eq_true (by first | (with_reducible assumption) | assumption)
                                    have q344 : x8_2 < (((rd_T68 l0 (rd x6_1 0)).f3).length : Int) := of_decide_eq_true (by first | (with_reducible assumption) | assumption)
                                    obtain ⟨ad344, e344, hx344_0⟩ := Kd.at_int HR343_3.out x8_2 p344 q344
                                    cases e344
                                    replace hx344_0 := (HB.out.cell (World.block_lt_of_cell? w _ hx344_0)).trans hx344_0
                                    replace p344 := eq_true p344
                                    replace q344 := eq_true q344
                                    go_wp2_with (first | ((with_reducible refine gate_callee (f := 61) rfl ?_); refine goesL_ (some 42) rfl rfl Tryz.func61 (by kernel_rfl) rfl #[.slice (some ad342) l0.length c0, .int .i64 (rd ((rd_T68 l0 (rd x6_1 0)).f3) x8_2)] rfl (by (try simp only [List.map_toArray, List.map_cons, List.map_nil]); first | done | rfl | (simp only [List.length_drop, List.length_take]; rfl)) ?_; (with_reducible refine (dioramaref15_find.calls k2 _ _ l0 (rd ((rd_T68 l0 (rd x6_1 0)).f3) x8_2) t345 _ ?side1 ?side2 A18.out).mono ?_); (case side1 => repeat (first | exact (Kd.C_below HR0.out HB.out) | (with_reducible refine Kd.C_alloc ?_ _) | (with_reducible refine Kd.C_drewN ?_ _) | (with_reducible refine Kd.C_drew ?_))); (case side2 => exact HC0.out); rintro e w' ⟨rfl, ⟨nd, rfl⟩⟩; refine ⟨_, rfl, ?_⟩; (try (rw [drewN_self wr]; generalize hq_ : World.drewN wr _ = wr; have n0_ : Aside0 (Kd.R Kd.bool 4 wr w.heap.size (fun _ => True) v333 x5_2) := ⟨by rw [← hq_]; exact (by (with_reducible repeat (first | apply Kd.R_alloc | apply Kd.R_drewN | apply Kd.R_drew)); exact HO_5.out)⟩; have n1_ : Aside0 (Kd.Q (Kd.int .i64) 3 wr w.heap.size (fun _ => True) u6 x6_2) := ⟨by rw [← hq_]; exact (by (with_reducible repeat (first | apply Kd.Q_alloc | apply Kd.Q_drewN | apply Kd.Q_drew)); exact HO_6.out)⟩; have n2_ : Aside0 (Below w.heap.size w wr) := ⟨by rw [← hq_]; exact (by repeat (first | (with_reducible first | exact HB.out | apply below_alloc | apply pw_below_drewN | apply below_drew1) | exact HB.out))⟩; clear HO_5 HO_6 HB hq_; have HO_5 := n0_; have HO_6 := n1_; have HB := n2_; clear n0_ n1_ n2_)); obtain ⟨Ao26, co26, eo26⟩ := Kd.R_slice HO_5.out; subst eo26; have p346 : 0 ≤ (t345 : Int) := of_decide_eq_true (by first | (with_reducible assumption) | assumption); have q346 : t345 < (x5_2.length : Int) := of_decide_eq_true (by first | (with_reducible assumption) | assumption); obtain ⟨ad346, e346, hx346_0⟩ := Kd.at_bool (Kd.R_reads' HO_5.out).2.2 t345 p346 q346; (try rw [← Nbq21.out] at hx346_0); cases e346; replace p346 := eq_true p346; replace q346 := eq_true q346; have p24 : 0 ≤ (t345 : Int) := of_decide_eq_true (by first | (with_reducible assumption) | assumption); have q24 : (t345 : Int) < ((x5_2.length : Int) : Int) := of_decide_eq_true (by first | (with_reducible assumption) | assumption); obtain ⟨go24, co24, eo24, gb24, gl24, cl24, HG24⟩ := Kd.R_form HO_5.out (by omega); (first | cases eo24 | (injection eo24 with ea_ en_ ec_; (first | subst ea_ | (injection ea_ with ea_; subst ea_)); subst ec_; clear en_)); have GB24 := Aside0.mk gb24; have GG24 := Aside0.mk HG24; clear gb24 gl24 HG24; (first | simp only [add_plain] at hx346_0 | skip); obtain ⟨hx24_0, hf24_0⟩ := Kd.R_celln false HO_5.out (t345 : Int) p24 q24; replace p24 := eq_true p24; replace q24 := eq_true q24; obtain ⟨hy27_, hz27_⟩ := Kd.R_celln false HO_5.out (t345 : Int) (of_decide_eq_true (by first | (with_reducible assumption) | assumption)) (of_decide_eq_true (by first | (with_reducible assumption) | assumption)); have HP27 := Kd.R_putg HO_5.out (t345 : Int) true) | ((with_reducible refine gate_store (t := 4) (p := 50) rfl ?_); refine store_event (t := 4) (p := 50) (v := ?vo_w28) (w1 := (wr.setCell ⟨go24, (t345 : Int).toNat, none⟩ (.bool true))) ?hg ?ho ?hn ?hr ?_; (case ho => rfl); (case hg => rfl); (case hn => rfl); (case hr => first | (go_simp; done) | (go_simp; rfl)); intro w28 hw; have hg : wr.grownBy w28 (some go24) := (by rw [hw]; exact HP27.2); have hp_ : Kd.R Kd.bool 4 w28 w.heap.size (fun _ => True) (.slice (some ⟨go24, 0, none⟩) x5_2.length co26) y347 := (by rw [hw, Ny347.out]; exact HP27.1); clear HP27; have n0_ := Aside0.mk (hp_); have n1_ := Aside0.mk (Kd.Q_over' (v := (.slice (some ⟨go24, 0, none⟩) x5_2.length co26)) (by (with_reducible repeat (first | apply Kd.Q_alloc | apply Kd.Q_drewN | apply Kd.Q_drew)); exact HO_6.out) (Kd.R_typed HO_5.out) (by decide) hg); have n2_ := Aside0.mk ((by rw [hw]; exact below_set (HB.out) GB24.out : Below w.heap.size w w28)); clear HO_5; clear HO_6; clear HB; have HO_5 := n0_; have HO_6 := n1_; have HB := n2_; clear n0_ n1_ n2_; clear hg hw hp_) | ((with_reducible refine gate_builtin (b := .append) (xs := #[.tmp 51, .tmp 53]) rfl ?_); at_builtin; refine Kd.Q_append (Kd.int .i64) (w0 := w) w.heap.size rfl (.tmp 51) (.tmp 53) 39 3 (.int .i64 0) 8 rfl Tryz.underlying39 info3 rfl (by decide) (by omega) u6 x6_2 t345 [.int .i64 t345] (fun _ => True) (fun _ => False) rfl rfl ?aP (fun _ hk => hk.elim) ?aF ?aO ?aB ?aS ?aL ?_; (case aP => exact rfl); (case aB => exact (by repeat (first | (with_reducible first | exact HB.out | apply below_alloc | apply pw_below_drewN | apply below_drew1) | exact HB.out))); (case aF => exact (fun _ _ => trivial)); (case aO => exact (by (with_reducible repeat (first | apply Kd.Q_alloc | apply Kd.Q_drewN | apply Kd.Q_drew)); exact HO_6.out)); (case aS => exact (below_size (by repeat (first | (with_reducible first | exact HB.out | apply below_alloc | apply pw_below_drewN | apply below_drew1) | exact HB.out)))); (case aL => have := LMc25.out; omega); intro v349 w29 ho hb hg hat; rw [← Ny348.out] at ho; have n0_ := Aside0.mk (Kd.R_over' (by (with_reducible repeat (first | apply Kd.R_alloc | apply Kd.R_drewN | apply Kd.R_drew)); exact HO_5.out) (Kd.Q_typed (by (with_reducible repeat (first | apply Kd.Q_alloc | apply Kd.Q_drewN | apply Kd.Q_drew)); exact HO_6.out)) (by decide) hg); have n1_ := Aside0.mk (hb); have n2_ := Aside0.mk (ho); clear HO_5; clear HB; clear HO_6; have HO_5 := n0_; have HB := n1_; have HO350 := n2_; clear n0_ n1_ n2_; clear ho hb hg hat))
                                    go_roundg k2
                                    case measure => have := HK1.out; have := HK2.out; omega
                                    case rel => exact ⟨(y347), (y348), (wrap64 (x8_2 + 1)), (by first | rfl | (simp; done) | (simp [*]; done)), H', ⟨by have := HK1.out; have := HK2.out; omega⟩, ⟨by (with_reducible repeat (first | apply Kd.R_alloc | apply Kd.R_drewN | apply Kd.R_drew)); exact HO_5.out⟩, ⟨by (with_reducible repeat (first | apply Kd.Q_alloc | apply Kd.Q_drewN | apply Kd.Q_drew)); exact HO350.out⟩, ⟨by repeat (first | (with_reducible first | exact HB.out | apply below_alloc | apply pw_below_drewN | apply below_drew1) | exact HB.out)⟩⟩
                                  · rw [if_neg c25] at H
                                    exact absurd H (by simp)
                              · rw [if_neg c20] at H
                                exact absurd H (by simp)
                            · rw [if_neg c19] at H
                              exact absurd H (by simp)
                          · rw [if_neg c17] at H
                            exact absurd H (by simp)
                        · rw [if_neg c16] at H
                          have c16b0 : decide (x8_2 < (((rd_T68 l0 (rd x6_1 0)).f3).length : Int)) = false := decide_eq_false c16
                          clear c16
                          have H' := Aside0.mk H
                          clear H
                          have p342 : 0 ≤ ((rd x6_1 0) : Int) := of_decide_eq_true (by first | (with_reducible assumption) | assumption)
                          have q342 : (rd x6_1 0) < (l0.length : Int) := of_decide_eq_true (by first | (with_reducible assumption) | assumption)
                          obtain ⟨ad342, A342_2, c342_2, A342_3, c342_3, A342_4, c342_4, A342_9, c342_9, e342, hx342_0, hx342_1, hx342_2, hx342_3, hx342_4, hx342_5, hx342_6, hx342_7, hx342_8, hx342_9, hx342_10, hx342_11, hl342_2, hi342_2, hl342_3, hi342_3, hl342_4, hi342_4, hl342_9, hi342_9⟩ := at_T68 HR0.out (rd x6_1 0) p342 q342
                          cases e342
                          replace hx342_0 := (HB.out.cell (World.block_lt_of_cell? w _ hx342_0)).trans hx342_0
                          replace hx342_1 := (HB.out.cell (World.block_lt_of_cell? w _ hx342_1)).trans hx342_1
                          replace hx342_2 := (HB.out.cell (World.block_lt_of_cell? w _ hx342_2)).trans hx342_2
                          replace hx342_3 := (HB.out.cell (World.block_lt_of_cell? w _ hx342_3)).trans hx342_3
                          replace hx342_4 := (HB.out.cell (World.block_lt_of_cell? w _ hx342_4)).trans hx342_4
                          replace hx342_5 := (HB.out.cell (World.block_lt_of_cell? w _ hx342_5)).trans hx342_5
                          replace hx342_6 := (HB.out.cell (World.block_lt_of_cell? w _ hx342_6)).trans hx342_6
                          replace hx342_7 := (HB.out.cell (World.block_lt_of_cell? w _ hx342_7)).trans hx342_7
                          replace hx342_8 := (HB.out.cell (World.block_lt_of_cell? w _ hx342_8)).trans hx342_8
                          replace hx342_9 := (HB.out.cell (World.block_lt_of_cell? w _ hx342_9)).trans hx342_9
                          replace hx342_10 := (HB.out.cell (World.block_lt_of_cell? w _ hx342_10)).trans hx342_10
                          replace hx342_11 := (HB.out.cell (World.block_lt_of_cell? w _ hx342_11)).trans hx342_11
                          have HR342_2 := Aside0.mk hi342_2
                          have HC342_2 := Aside0.mk hl342_2
                          clear hi342_2 hl342_2
                          have HR342_3 := Aside0.mk hi342_3
                          have HC342_3 := Aside0.mk hl342_3
                          clear hi342_3 hl342_3
                          have HR342_4 := Aside0.mk hi342_4
                          have HC342_4 := Aside0.mk hl342_4
                          clear hi342_4 hl342_4
                          have HR342_9 := Aside0.mk hi342_9
                          have HC342_9 := Aside0.mk hl342_9
                          clear hi342_9 hl342_9
                          replace p342 := eq_true p342
                          replace q342 := eq_true q342
                          go_wp2
                          go_roundg k2
                          case measure => have := HK1.out; have := HK2.out; omega
                          case rel => exact ⟨(x5_2), (x6_2), H', ⟨by have := HK1.out; have := HK2.out; omega⟩, ⟨by (with_reducible repeat (first | apply Kd.R_alloc | apply Kd.R_drewN | apply Kd.R_drew)); exact HO_5.out⟩, ⟨by (with_reducible repeat (first | apply Kd.Q_alloc | apply Kd.Q_drewN | apply Kd.Q_drew)); exact HO_6.out⟩, ⟨by repeat (first | (with_reducible first | exact HB.out | apply below_alloc | apply pw_below_drewN | apply below_drew1) | exact HB.out)⟩⟩
                      · rw [if_neg c15] at H
                        exact absurd H (by simp)
                    · rw [if_neg c14] at H
                      exact absurd H (by simp)
              · rw [if_neg c11] at H
                exact absurd H (by simp)
            · rw [if_neg c10] at H
              exact absurd H (by simp)
          · rw [if_neg c9] at H
            have c9b0 : decide (0 < (x6_1.length : Int)) = false := decide_eq_false c9
            have c9b1 : decide (0 < x6_1.length) = false := decide_eq_false (by omega)
            clear c9
            obtain rfl := Option.some.inj H
            obtain ⟨Ao30, co30, eo30, _⟩ := Kd.Q_slice HO_6.out
            subst eo30
            go_wp2
            go_ret
            exact ⟨_, by first | rfl | (simp [errW_none, errW_some] <;> rfl) | (simp [*, errW_none, errW_some] <;> rfl), by (with_reducible repeat (first | apply Kd.R_alloc | apply Kd.R_drewN | apply Kd.R_drew)); exact HO_5.out, by repeat (first | (with_reducible first | exact HB.out | apply below_alloc | apply pw_below_drewN | apply below_drew1) | exact HB.out)⟩
    · rw [if_neg c4] at H
      exact absurd H (by simp)
  · rw [if_neg c3] at H
    exact absurd H (by simp)
end Go.Proofs.YtphkionjjhhhlaaGreat.Q
end
section
namespace Go.Proofs.YtphkionjjhhhlaaGreat.Q
open Go.RowKit Go.Proofs.YtphkionjjhhhlaaGreatW.PrintWords Go.Proofs.YtphkionjjhhhlaaGreatW.PrintLast Go.Proofs.YtphkionjjhhhlaaGreatW.PrintMore
theorem idxAux_range {α : Type} (p : α → Bool) : ∀ (l : List α) (j : Nat), idxAux p l j = -1 ∨ ((j : Int) ≤ idxAux p l j ∧ idxAux p l j < (j : Int) + l.length) := by
  intro l
  induction l with
  | nil => intro j; exact .inl rfl
  | cons x l ih =>
    intro j
    unfold idxAux
    by_cases h : p x = true
    · rw [if_pos h]; right; simp; omega
    · rw [if_neg h]
      rcases ih (j + 1) with h2 | h2
      · exact .inl h2
      · right; simp; omega
theorem findI_range (l : List S68) (id : Int) : findI l id = -1 ∨ (0 ≤ findI l id ∧ findI l id < (l.length : Int)) := by
  rcases idxAux_range (fun x : S68 => x.f0 == id) l 0 with h | h
  · exact .inl h
  · right
    unfold findI idxOf
    omega
theorem rdT68_at (l : List S68) (p : Nat) (x : S68) (h : l[p]? = some x) : rd_T68 l (p : Int) = x := by
  simp [rd_T68, List.getD_eq_getElem?_getD, h]
theorem find_l0 (l : List S68) (hl : l.length < 1000000) (id : Int) : ∀ (n j : Nat), j + n = l.length → Ev fun k => dioramaref15_find.l0 k l id j = some (idxAux (fun x => x.f0 == id) (l.drop j) j) := by
  intro n
  induction n with
  | zero =>
    intro j hj
    refine Ev.const fun k => ?_
    rw [dioramaref15_find.l0, if_neg (by omega), List.drop_eq_nil_of_le (by omega)]
    rfl
  | succ n ih =>
    intro j hj
    have hjl : j < l.length := by omega
    have hx : l[j]? = some l[j] := List.getElem?_eq_getElem hjl
    have hstep := idxOf_step (fun x : S68 => x.f0 == id) l j _ hx
    by_cases he : l[j].f0 = id
    · refine Ev.const fun k => ?_
      rw [dioramaref15_find.l0, if_pos (by omega), if_pos (by omega), rdT68_at l j _ hx, if_pos he, hstep, if_pos (by simpa using he)]
    · rw [hstep, if_neg (by simpa using he)]
      refine Ev.step (fun k => ?_) (ih (j + 1) (by omega))
      rw [dioramaref15_find.l0, if_pos (by omega), if_pos (by omega), rdT68_at l j _ hx, if_neg he, w64_succ j (by omega)]
theorem find_is (l : List S68) (hl : l.length < 1000000) (id : Int) : Ev fun k => dioramaref15_find.f k l id = some (findI l id) := by
  have := find_l0 l hl id l.length 0 (by omega)
  exact this
def chI (l : List S68) (k : Int) : List Int := (rd_T68 l k).f3.map (findI l)
def addL : List Int → List Bool → List Int → List Bool × List Int
  | [], s, t => (s, t)
  | c :: cs, s, t => if rdOf false s c = true then addL cs s t else addL cs (s.set c.toNat true) (t ++ [c])
structure Added (N : Nat) (cs : List Int) (s : List Bool) (t : List Int) (s' : List Bool) (t' : List Int) : Prop where
  len : s'.length = N
  keep : ∀ m, 0 ≤ m → At s m → At s' m
  new : ∀ m, 0 ≤ m → At s' m → At s m ∨ m ∈ cs
  all : ∀ c ∈ cs, At s' c
  old : ∀ m ∈ t, m ∈ t'
  from_ : ∀ m ∈ t', m ∈ t ∨ (m ∈ cs ∧ At s' m)
  todo : ∀ m, 0 ≤ m → At s' m → ¬ At s m → m ∈ t'
  less : t'.length + unseen N s' ≤ t.length + unseen N s
theorem addL_is (N : Nat) : ∀ (cs : List Int) (s : List Bool) (t : List Int), (∀ c ∈ cs, 0 ≤ c ∧ c < (N : Int)) → s.length = N → Added N cs s t (addL cs s t).1 (addL cs s t).2 := by
  intro cs
  induction cs with
  | nil => intro s t _ hs; exact ⟨hs, fun _ _ h => h, fun _ _ h => .inl h, fun c hc => (by cases hc), fun _ h => h, fun _ h => .inl h, fun _ _ h h2 => absurd h h2, Nat.le_refl _⟩
  | cons c cs ih =>
    intro s t hcs hs
    have hc := hcs c List.mem_cons_self
    have hcs' : ∀ c ∈ cs, 0 ≤ c ∧ c < (N : Int) := fun x hx => hcs x (List.mem_cons_of_mem _ hx)
    unfold addL
    by_cases hseen : rdOf false s c = true
    · rw [if_pos hseen]
      have h := ih s t hcs' hs
      refine ⟨h.len, h.keep, fun m h0 hm => ?_, fun x hx => ?_, h.old, fun m hm => ?_, h.todo, h.less⟩
      · rcases h.new m h0 hm with h1 | h1
        · exact .inl h1
        · exact .inr (List.mem_cons_of_mem _ h1)
      · rcases List.mem_cons.1 hx with rfl | hx
        · exact h.keep _ hc.1 hseen
        · exact h.all x hx
      · rcases h.from_ m hm with h1 | h1
        · exact .inl h1
        · exact .inr ⟨List.mem_cons_of_mem _ h1.1, h1.2⟩
    · rw [if_neg hseen]
      have hs1 : (s.set c.toNat true).length = N := by rw [List.length_set]; exact hs
      have hu1 := unseen_set N hs hc.1 hc.2 hseen
      have hat := at_set N hs hc.1 hc.2
      have h := ih _ (t ++ [c]) hcs' hs1
      have hcat : At (addL cs (s.set c.toNat true) (t ++ [c])).1 c := h.keep c hc.1 ((hat c hc.1).2 (.inl rfl))
      refine ⟨h.len, fun m h0 hm => h.keep m h0 ((hat m h0).2 (.inr hm)), fun m h0 hm => ?_, fun x hx => ?_, fun m hm => h.old m (List.mem_append_left _ hm), fun m hm => ?_, fun m h0 hm hn => ?_, ?_⟩
      · rcases h.new m h0 hm with h1 | h1
        · rcases (hat m h0).1 h1 with rfl | h2
          · exact .inr List.mem_cons_self
          · exact .inl h2
        · exact .inr (List.mem_cons_of_mem _ h1)
      · rcases List.mem_cons.1 hx with rfl | hx
        · exact hcat
        · exact h.all x hx
      · rcases h.from_ m hm with h1 | h1
        · rcases List.mem_append.1 h1 with h2 | h2
          · exact .inl h2
          · rw [List.mem_singleton.1 h2]
            exact .inr ⟨List.mem_cons_self, hcat⟩
        · exact .inr ⟨List.mem_cons_of_mem _ h1.1, h1.2⟩
      · by_cases hmc : m = c
        · subst hmc
          exact h.old m (List.mem_append_right _ (List.mem_singleton.2 rfl))
        · exact h.todo m h0 hm fun hh => by
            rcases (hat m h0).1 hh with h1 | h1
            · exact hmc h1
            · exact hn h1
      · have := h.less
        rw [List.length_append, List.length_singleton] at this
        omega
theorem reached_l1 (l : List S68) (hl : l.length < 1000000) (x7 : Int) (h0 : 0 ≤ x7) (h1 : x7 < (l.length : Int)) (hf : (rd_T68 l x7).f3.length < 1000000) (hch : ∀ c ∈ chI l x7, 0 ≤ c ∧ c < (l.length : Int)) (R : Option (List Bool)) :
    ∀ (n j : Nat), j + n = (rd_T68 l x7).f3.length → ∀ (s : List Bool) (t : List Int), s.length = l.length → t.length + n < 17592186044416 →
      (Ev fun k => dioramaref15_reached.l0 k l (addL ((chI l x7).drop j) s t).1 (addL ((chI l x7).drop j) s t).2 = R) → Ev fun k => dioramaref15_reached.l1 k l s t x7 j = R := by
  have hlen : (chI l x7).length = (rd_T68 l x7).f3.length := by simp [chI]
  intro n
  induction n with
  | zero =>
    intro j hj s t hs ht hR
    rw [List.drop_eq_nil_of_le (by omega)] at hR
    refine Ev.step (fun k => ?_) hR
    rw [dioramaref15_reached.l1, if_pos h0, if_pos h1, if_neg (by omega)]
    rfl
  | succ n ih =>
    intro j hj s t hs ht hR
    have hjl : j < (rd_T68 l x7).f3.length := by omega
    have hx : (rd_T68 l x7).f3[j]? = some (rd_T68 l x7).f3[j] := List.getElem?_eq_getElem hjl
    have hc : (chI l x7)[j]? = some (findI l (rd_T68 l x7).f3[j]) := by simp [chI, hx]
    have hcr := hch _ (List.mem_of_getElem? hc)
    rw [drop_at _ _ _ hc] at hR
    unfold addL at hR
    by_cases hseen : rdOf false s (findI l (rd_T68 l x7).f3[j]) = true
    · rw [if_pos hseen] at hR
      have h2 := ih (j + 1) (by omega) s t hs (by omega) hR
      refine Ev.step (g := fun k => (dioramaref15_find.f k l (rd_T68 l x7).f3[j]).bind fun t345 => (if 0 ≤ t345 then (if t345 < (s.length : Int) then (if rdOf false s t345 = true then (dioramaref15_reached.l1 k l s t x7 ((j + 1 : Nat) : Int)) else (if t.length < 17592186044416 then (dioramaref15_reached.l1 k l (s.set (t345 : Int).toNat true) (t ++ [t345]) x7 ((j + 1 : Nat) : Int)) else (none))) else (none)) else (none))) (fun k => ?_) (Ev.bind (find_is l hl _) ?_)
      · rw [dioramaref15_reached.l1, if_pos h0, if_pos h1, if_pos (by omega), if_pos (by omega), rd_at _ j _ hx, w64_succ j (by omega)]
      · refine Ev.mono h2 fun k hk => ?_
        rw [if_pos hcr.1, if_pos (by omega), if_pos hseen]
        exact hk
    · rw [if_neg hseen] at hR
      have h2 := ih (j + 1) (by omega) _ _ (by rw [List.length_set]; exact hs) (by rw [List.length_append, List.length_singleton]; omega) hR
      refine Ev.step (g := fun k => (dioramaref15_find.f k l (rd_T68 l x7).f3[j]).bind fun t345 => (if 0 ≤ t345 then (if t345 < (s.length : Int) then (if rdOf false s t345 = true then (dioramaref15_reached.l1 k l s t x7 ((j + 1 : Nat) : Int)) else (if t.length < 17592186044416 then (dioramaref15_reached.l1 k l (s.set (t345 : Int).toNat true) (t ++ [t345]) x7 ((j + 1 : Nat) : Int)) else (none))) else (none)) else (none))) (fun k => ?_) (Ev.bind (find_is l hl _) ?_)
      · rw [dioramaref15_reached.l1, if_pos h0, if_pos h1, if_pos (by omega), if_pos (by omega), rd_at _ j _ hx, w64_succ j (by omega)]
      · refine Ev.mono h2 fun k hk => ?_
        rw [if_pos hcr.1, if_pos (by omega), if_neg hseen, if_pos (by omega)]
        exact hk
structure Bfs (l : List S68) (i : Int) (s : List Bool) (t : List Int) : Prop where
  len : s.length = l.length
  only : ∀ m, 0 ≤ m → At s m → Rch (chI l) i m
  todo : ∀ m ∈ t, (0 ≤ m ∧ m < (l.length : Int)) ∧ (m = i ∨ At s m)
  shut : ∀ m, 0 ≤ m → (m = i ∨ At s m) → m ∈ t ∨ ∀ c ∈ chI l m, At s c
theorem reached_l0 (l : List S68) (hl : l.length < 1000000) (hf : ∀ x ∈ l, x.f3.length < 1000000) (hch : ∀ k, 0 ≤ k → k < (l.length : Int) → ∀ c ∈ chI l k, 0 ≤ c ∧ c < (l.length : Int)) (i : Int) :
    ∀ (n : Nat) (s : List Bool) (t : List Int), t.length + unseen l.length s ≤ n → n < 10000000 → Bfs l i s t → ∃ s', (Ev fun k => dioramaref15_reached.l0 k l s t = some s') ∧ Bfs l i s' [] := by
  intro n
  induction n with
  | zero =>
    intro s t hn _ hB
    obtain rfl : t = [] := List.length_eq_zero_iff.1 (by omega)
    exact ⟨s, Ev.const fun k => by rw [dioramaref15_reached.l0, if_neg (by simp)], hB⟩
  | succ n ih =>
    intro s t hn hb hB
    cases t with
    | nil => exact ⟨s, Ev.const fun k => by rw [dioramaref15_reached.l0, if_neg (by simp)], hB⟩
    | cons x t =>
      have hx := hB.todo x List.mem_cons_self
      have hA := addL_is l.length (chI l x) s t (hch x hx.1.1 hx.1.2) hB.len
      have hxl : x.toNat < l.length := by omega
      have hrd : rd_T68 l x ∈ l := by
        have : l[x.toNat]? = some l[x.toNat] := List.getElem?_eq_getElem hxl
        have h2 := rdT68_at l x.toNat _ this
        rw [Int.toNat_of_nonneg hx.1.1] at h2
        rw [h2]
        exact List.getElem_mem hxl
      have hB' : Bfs l i (addL (chI l x) s t).1 (addL (chI l x) s t).2 := by
        refine ⟨hA.len, fun m h0 hm => ?_, fun m hm => ?_, fun m h0 hm => ?_⟩
        · rcases hA.new m h0 hm with h1 | h1
          · exact hB.only m h0 h1
          · rcases hx.2 with rfl | h2
            · exact .one h1
            · exact Rch.trans _ (hB.only x hx.1.1 h2) (.one h1)
        · rcases hA.from_ m hm with h1 | ⟨h1, h2⟩
          · have h3 := hB.todo m (List.mem_cons_of_mem _ h1)
            exact ⟨h3.1, h3.2.imp id (hA.keep m h3.1.1)⟩
          · exact ⟨hch x hx.1.1 hx.1.2 m h1, .inr h2⟩
        · have hold : (m = i ∨ At s m) → m ∈ (addL (chI l x) s t).2 ∨ ∀ c ∈ chI l m, At (addL (chI l x) s t).1 c := by
            intro h1
            rcases hB.shut m h0 h1 with h2 | h2
            · rcases List.mem_cons.1 h2 with rfl | h3
              · exact .inr hA.all
              · exact .inl (hA.old m h3)
            · by_cases hml : m < (l.length : Int)
              · exact .inr fun c hc => hA.keep c (hch m h0 hml c hc).1 (h2 c hc)
              · right
                intro c hc
                have hz : rd_T68 l m = z68 := by
                  unfold rd_T68
                  rw [List.getD_eq_getElem?_getD, List.getElem?_eq_none (by omega)]
                  rfl
                unfold chI at hc
                rw [hz] at hc
                cases hc
          rcases hm with h1 | h1
          · exact hold (.inl h1)
          · by_cases h2 : At s m
            · exact hold (.inr h2)
            · exact .inl (hA.todo m h0 h1 h2)
      simp only [List.length_cons] at hn
      obtain ⟨s', h1, h2⟩ := ih _ _ (by have := hA.less; omega) (by omega) hB'
      refine ⟨s', ?_, h2⟩
      have h3 := reached_l1 l hl x hx.1.1 hx.1.2 (hf _ hrd) (hch x hx.1.1 hx.1.2) (some s') (rd_T68 l x).f3.length 0 (by omega) s t hB.len (by have := hf _ hrd; have := unseen_le l.length s; omega) (by rw [List.drop_zero]; exact h1)
      refine Ev.step (fun k => ?_) h3
      rw [dioramaref15_reached.l0, if_pos (by simp only [List.length_cons]; omega), if_pos (by simp only [List.length_cons]; omega), if_pos (by simp only [List.length_cons]; omega)]
      simp [rd]
theorem reached_is (l : List S68) (hl : l.length < 1000000) (hf : ∀ x ∈ l, x.f3.length < 1000000) (hch : ∀ k, 0 ≤ k → k < (l.length : Int) → ∀ c ∈ chI l k, 0 ≤ c ∧ c < (l.length : Int)) (i : Int) (h0 : 0 ≤ i) (h1 : i < (l.length : Int)) :
    ∃ s', (Ev fun k => dioramaref15_reached.f k l i = some s') ∧ s'.length = l.length ∧ ∀ m, 0 ≤ m → (rdOf false s' m = true ↔ Rch (chI l) i m) := by
  have hn : ∀ m, ¬ At (List.replicate l.length false) m := by
    intro m
    unfold At rdOf
    rw [List.getD_eq_getElem?_getD, List.getElem?_replicate]
    split <;> simp
  obtain ⟨s', h2, h3⟩ := reached_l0 l hl hf hch i _ (List.replicate l.length false) [i] (Nat.le_refl _) (by have := unseen_le l.length (List.replicate l.length false); simp only [List.length_cons, List.length_nil]; omega)
    ⟨by simp, fun m _ h => absurd h (hn m), fun m hm => by rw [List.mem_singleton.1 hm]; exact ⟨⟨h0, h1⟩, .inl rfl⟩, fun m _ h => by
      rcases h with rfl | h
      · exact .inl (List.mem_singleton.2 rfl)
      · exact absurd h (hn m)⟩
  refine ⟨s', ?_, h3.len, fun m hm => ⟨h3.only m hm, fun h => ?_⟩⟩
  · refine Ev.mono h2 fun k hk => ?_
    unfold dioramaref15_reached.f
    rw [if_pos (by omega), if_pos (by omega), Int.toNat_natCast]
    exact hk
  · have key : ∀ a b, Rch (chI l) a b → 0 ≤ a → a < (l.length : Int) → (a = i ∨ At s' a) → At s' b := by
      intro a b hr
      induction hr with
      | one hc =>
        intro ha _ h4
        rcases h3.shut _ ha h4 with h5 | h5
        · cases h5
        · exact h5 _ hc
      | more hc _ ih =>
        intro ha hal h4
        rcases h3.shut _ ha h4 with h5 | h5
        · cases h5
        · have := hch _ ha hal _ hc
          exact ih this.1 this.2 (.inr (h5 _ hc))
    exact key i m h h0 h1 (.inl rfl)
end Go.Proofs.YtphkionjjhhhlaaGreat.Q
end
section
namespace Go.Proofs.YtphkionjjhhhlaaGreat.Q
open Go.RowKit Go.Proofs.YtphkionjjhhhlaaGreatW.PrintWords Go.Proofs.YtphkionjjhhhlaaGreatW.PrintLast Go.Proofs.YtphkionjjhhhlaaGreatW.PrintMore
set_option maxHeartbeats 8000000 in
set_option maxRecDepth 100000 in
theorem Index_int.calls (A0 : Option Addr) (c0 : Nat) (l0 : List Int) (a1 : Int) (w : World) (hr0 : Kd.C (Kd.int .i64) w A0 l0.length l0) :
    Calls Tryz.prog 158 #[.slice A0 l0.length c0, .int .i64 a1] w fun e w' => e = .returned (.int .i64 (idxOf (fun x => a1 == x) l0)) ∧ w' = w := by
  have HR0 := Aside0.mk hr0
  have hlen := Aside0.mk hr0.2.1
  clear hr0
  have HI : Aside0 (0 ≤ (0 : Int) ∧ (0 : Int) + (l0.length : Nat) = l0.length ∧ idxAux (fun x => a1 == x) (l0.drop (0 : Int).toNat) (0 : Int).toNat = idxOf (fun x => a1 == x) l0) := ⟨by omega, by omega, rfl⟩
  go_enter Tryz.func158, Tryz.ntmps158
  go_wp2
  go_loopg [8] l0.length (fun kq v8 w' => ∃ i : Int, v8 = .int .i64 i ∧ Aside0 (0 ≤ i ∧ i + kq = l0.length ∧ idxAux (fun x => a1 == x) (l0.drop i.toNat) i.toNat = idxOf (fun x => a1 == x) l0) ∧ w' = w)
  case atStart => exact ⟨0, rfl, HI, rfl⟩
  case round =>
    clear HI
    obtain ⟨i, rfl, HI, rfl⟩ := hrel
    cases gk with
    | zero =>
      have hge : decide (i < (l0.length : Int)) = false := by have := HI.out; simp; omega
      go_wp2
      go_ret
      exact ⟨by rw [← HI.out.2.2, idxOf_end _ l0 i.toNat (by have := HI.out; omega)]; rfl, rfl⟩
    | succ k1 =>
      have h0 : 0 ≤ i := by have := HI.out; omega
      have h1 : i < (l0.length : Int) := by have := HI.out; omega
      have hge : decide (i < (l0.length : Int)) = true := decide_eq_true h1
      have hg0 : decide (0 ≤ i) = true := decide_eq_true h0
      obtain ⟨ad, e0, hc⟩ := ReadsInt.at_ (Kd.reads_of_C (d := 0) HR0.out : ReadsInt _ .i64 A0 l0.length l0) i h0 h1
      cases e0
      have hx : Aside0 (l0[i.toNat]? = some (rd l0 i)) := ⟨by
        have hl : i.toNat < l0.length := by omega
        simp [rd, List.getElem?_eq_getElem hl, List.getD_eq_getElem?_getD]⟩
      generalize rd l0 i = x at *
      have hw : Aside0 (wrap64 (i + 1) = i + 1 ∧ (i + 1).toNat = i.toNat + 1) := ⟨by have := HI.out; have := hlen.out; unfold wrap64; omega, by omega⟩
      have hst := HI.out.2.2
      rw [idxOf_step _ l0 i.toNat x hx.out] at hst
      replace h0 := eq_true h0
      replace h1 := eq_true h1
      cases hpx : (a1 == x) with
      | true =>
        rw [hpx, if_pos rfl] at hst
        have HST := Aside0.mk hst
        clear hst
        have q1 : decide (a1 = x) = true := by simpa using hpx
        go_wp2
        go_ret
        exact ⟨by rw [← HST.out, Int.toNat_of_nonneg HI.out.1]; rfl, rfl⟩
      | false =>
        rw [hpx, if_neg (by decide)] at hst
        have HST := Aside0.mk hst
        clear hst
        have q1 : decide (a1 = x) = false := by simpa using hpx
        go_wp2
        go_roundg k1
        case measure => omega
        case rel => exact ⟨i + 1, congrArg _ hw.out.1, ⟨by have := HI.out; omega, by have := HI.out; omega, by rw [hw.out.2]; exact HST.out⟩, rfl⟩
set_option maxHeartbeats 8000000 in
set_option maxRecDepth 100000 in
theorem Contains_int.calls (A0 : Option Addr) (c0 : Nat) (l0 : List Int) (a1 : Int) (w : World) (hr0 : Kd.C (Kd.int .i64) w A0 l0.length l0) :
    Calls Tryz.prog 117 #[.slice A0 l0.length c0, .int .i64 a1] w fun e w' => e = .returned (.bool (l0.any fun x => a1 == x)) ∧ w' = w := by
  have HC := Aside0.mk (Index_int.calls A0 c0 l0 a1 w hr0)
  clear hr0
  rw [← idxOf_any]
  go_enter Tryz.func117, Tryz.ntmps117
  go_wp2_with (refine HC.out.mono ?_; rintro e w' ⟨rfl, rfl⟩)
  go_ret
  exact ⟨rfl, rfl⟩
end Go.Proofs.YtphkionjjhhhlaaGreat.Q
end
section
namespace Go.Proofs.YtphkionjjhhhlaaGreat.Q
open Go.RowKit Go.Proofs.YtphkionjjhhhlaaGreatW.PrintWords Go.Proofs.YtphkionjjhhhlaaGreatW.PrintLast Go.Proofs.YtphkionjjhhhlaaGreatW.PrintMore
theorem enters_116 : ∀ (args : Array Value) (W : World), (callFunc 116 args).run Tryz.prog W = .ok (.enter 116 args) W := enters_of Tryz.func116 (by kernel_rfl) rfl
def goO (l : List S68) (go : Int → List Int → Option (List Int)) : List Int → List Int → Option (List Int)
  | [], o => some o
  | id :: ids, o => (go (findI l id) o).bind fun o1 => goO l go ids o1
def walkO (l : List S68) : Nat → Int → List Int → Option (List Int)
  | 0, _, _ => none
  | f + 1, k, o => if (o.any fun x => k == x) = true then some o else if 0 ≤ k ∧ k < (l.length : Int) then (goO l (walkO l f) (rd_T68 l k).f3 o).bind fun o1 => if o1.length < 1000000 then some (o1 ++ [k]) else none else none
theorem goO_drop (l : List S68) (go : Int → List Int → Option (List Int)) (ids : List Int) (j : Nat) (id : Int) (o : List Int) (h : ids[j]? = some id) :
    goO l go (ids.drop j) o = (go (findI l id) o).bind fun o1 => goO l go (ids.drop (j + 1)) o1 := by
  obtain ⟨hl, he⟩ := List.getElem?_eq_some_iff.1 h
  rw [List.drop_eq_getElem_cons hl, he]
  rfl
structure OrderW (w0 w : World) (g1 g2 g3 : Nat) (A0 : Option Addr) (c0 : Nat) (l : List S68) (v : Value) (o : List Int) : Prop where
  b1 : w.heap[g1]? = some (.cells #[v] 39 (0, 0))
  b2 : w.heap[g2]? = some (.cells #[.slice A0 l.length c0] 35 (0, 0))
  b3 : w.heap[g3]? = some (.cells #[.func (.func 116) #[] #[.pointer (some ⟨g1, 0, none⟩), .pointer (some ⟨g2, 0, none⟩), .pointer (some ⟨g3, 0, none⟩)]] 153 (0, 0))
  row : (Kd.int .i64).R 3 w w0.heap.size (fun _ => True) v o
  ge : w0.heap.size ≤ g1
  below : Below w0.heap.size w0 w
theorem OrderW.keep {w0 w w1 : World} {g1 g2 g3 : Nat} {A0 : Option Addr} {c0 : Nat} {l : List S68} {v : Value} {o : List Int} (h : OrderW w0 w g1 g2 g3 A0 c0 l v o) (hb : Below w.heap.size w w1) : OrderW w0 w1 g1 g2 g3 A0 c0 l v o :=
  ⟨blk_below h.b1 hb, blk_below h.b2 hb, blk_below h.b3 hb, Kd.R_below h.row hb, h.ge, pw_below_trans h.below hb⟩
theorem OrderW.lay {w0 w w1 : World} {g1 g2 g3 : Nat} {A0 : Option Addr} {c0 : Nat} {l : List S68} {v v1 : Value} {o o1 : List Int} (h : OrderW w0 w g1 g2 g3 A0 c0 l v o) (hg : w.grownBy w1 v.ownBlock) (hr : (Kd.int .i64).R 3 w1 w0.heap.size (fun _ => True) v1 o1) :
    OrderW w0 (w1.setCell ⟨g1, 0, none⟩ v1) g1 g2 g3 A0 c0 l v1 o1 ∧ w1.heap[g1]? = some (.cells #[v] 39 (0, 0)) := by
  have k : ∀ {g t : Nat} {cells : Array Value}, w.heap[g]? = some (.cells cells t (0, 0)) → 3 ≠ t → w1.heap[g]? = some (.cells cells t (0, 0)) := fun hb ht => blk_grown hb hg (Kd.R_ne h.row hb ht)
  have c1 := k h.b1 (by decide)
  have c2 := k h.b2 (by decide)
  have c3 := k h.b3 (by decide)
  refine ⟨⟨blk_put c1 0 v1 rfl, blk_far c2 (ne_types c2 c1 (by decide)) _, blk_far c3 (ne_types c3 c1 (by decide)) _, ?_, h.ge, ?_⟩, c1⟩
  · refine Kd.R_mono (Kd.R_move (w1 := w1.setCell ⟨g1, 0, none⟩ v1) (Kd.R_bound hr) (fun q hq => ?_)) (fun _ _ => trivial)
    obtain ⟨_, _, _, e, he, cells, hc⟩ := hq
    refine Below.heap_setCell w1 _ v1 q (fun hqg => ?_)
    have hqg : q = g1 := hqg
    simp [Kd.int, Kd.scalar] at he
    subst he
    exact ne_types hc c1 (by decide) hqg
  · exact below_set (h.below.grown hg h.below.size (Kd.R_base h.row)) h.ge
def order_walk.T4 : Bool × List (List Nat × List Nat) := (true, [([], []), ([], []), ([], []), ([1, 2], [1, 2]), ([0, 3, 3], [0, 3])])
def order_walk.B4 : List Nat := [0, 0, 0, 6, 15]
theorem order_walk.tab4 : rtab .any (opsOf Tryz.f116 4) = order_walk.T4 := by kernel_rfl
theorem order_walk.bits4 : waitsOk order_walk.T4.2 order_walk.B4 = true := by kernel_rfl
set_option maxHeartbeats 16000000 in
set_option maxRecDepth 100000 in
theorem order_any (l : List S68) (w0 : World) (A0 : Option Addr) (c0 : Nat) (hr0 : Kd.C k68 w0 A0 l.length l) (hc0 : l.length ≤ c0) (f : Nat) : ∀ (k : Int) (vo : Value) (o r : List Int) (w : World) (g1 g2 g3 : Nat),
    OrderW w0 w g1 g2 g3 A0 c0 l vo o → walkO l f k o = some r →
    Calls Tryz.prog 116 #[.int .i64 k, .pointer (some ⟨g1, 0, none⟩), .pointer (some ⟨g2, 0, none⟩), .pointer (some ⟨g3, 0, none⟩)] w
      fun e w' => e = .returned (.tuple #[]) ∧ ∃ v', OrderW w0 w' g1 g2 g3 A0 c0 l v' r := by
  induction f with
  | zero => intro k vo o r w g1 g2 g3 _ h; cases h
  | succ f ih =>
    intro k vo o r w g1 g2 g3 hL h
    simp only [walkO] at h
    obtain ⟨Ao, co, rfl, hco, hro⟩ := Kd.R_reads hL.row
    have HL := Aside0.mk hL
    have HR := Aside0.mk hr0
    have IH := Aside0.mk ih
    have HC0 := Aside0.mk hc0
    have HRO := Aside0.mk hro
    clear ih hr0 hL hc0 hro hco
    have k1 : w.cell? ⟨g1, 0, none⟩ = some (.slice Ao o.length co) := (blk_cell HL.out.b1 0).trans rfl
    have k2 : w.cell? ⟨g2, 0, none⟩ = some (.slice A0 l.length c0) := (blk_cell HL.out.b2 0).trans rfl
    cases ha : (o.any fun x => k == x) with
    | true =>
      rw [if_pos ha] at h
      obtain rfl := Option.some.inj h
      have ANY := Aside0.mk ha
      clear ha h
      go_enter Tryz.func116, Tryz.ntmps116
      go_wp2_with (go_at_call 117; (with_reducible refine (Contains_int.calls Ao co o k _ HRO.out).mono ?_); rintro e w' ⟨rfl, rfl⟩; rw [ANY.out])
      first | go_end0 | ((try simp only [Exit.inBlock, Exit.then]); refine bodyPost_ret (results_none rfl _ _ _) rfl ?_)
      exact ⟨rfl, _, HL.out⟩
    | false =>
      rw [if_neg (by rw [ha]; decide)] at h
      have ANY := Aside0.mk ha
      clear ha
      split at h
      case isFalse => cases h
      case isTrue hk =>
      obtain ⟨hk0, hk1⟩ := hk
      obtain ⟨oz, hoz, h⟩ := Option.bind_eq_some_iff.1 h
      split at h
      case isFalse => cases h
      case isTrue hsz =>
      obtain rfl := Option.some.inj h
      clear h
      have HSZ := Aside0.mk hsz
      clear hsz
      obtain ⟨ad, A2, c2, A3, c3, A4, c4, A9, c9, e0, _, _, _, hx3, _, _, _, _, _, _, _, _, _, _, hl3, hi3, _⟩ := at_T68 HR.out k hk0 hk1
      cases e0
      replace hx3 := (HL.out.below.cell (World.block_lt_of_cell? w0 _ hx3)).trans hx3
      have HX := Aside0.mk hi3
      clear hl3 hi3
      have H := Aside0.mk hoz
      clear hoz
      generalize (rd_T68 l k).f3 = ids at *
      have hk0b : decide (0 ≤ k) = true := decide_eq_true hk0
      have hk1b : decide (k < (l.length : Int)) = true := decide_eq_true hk1
      have hen := enters_116
      replace hk0 := eq_true hk0
      replace hk1 := eq_true hk1
      go_enter Tryz.func116, Tryz.ntmps116
      go_wp2_with (go_at_call 117; (with_reducible refine (Contains_int.calls Ao co o k _ HRO.out).mono ?_); rintro e w' ⟨rfl, rfl⟩; rw [ANY.out])
      have HI : Aside0 (0 ≤ (0 : Int) ∧ (0 : Int) + (ids.length : Nat) = ids.length ∧ goO l (walkO l f) (ids.drop (0 : Int).toNat) o = some oz) := ⟨by omega, by omega, H.out⟩
      have hlen := Aside0.mk HX.out.2.1
      clear k1 k2 hx3
      go_loopg [16] ids.length (fun kq v16 w' => ∃ (j : Int) (vo : Value) (ob : List Int), v16 = .int .i64 j ∧ Aside0 (0 ≤ j ∧ j + kq = ids.length ∧ goO l (walkO l f) (ids.drop j.toNat) ob = some oz) ∧ Aside0 (OrderW w0 w' g1 g2 g3 (some ad) c0 l vo ob))
      case atStart => exact ⟨0, _, o, rfl, HI, HL⟩
      case round =>
        clear HI HL H
        obtain ⟨j, vo, ob, rfl, HI, HL⟩ := hrel
        cases gk with
        | zero =>
          have hge : decide (j < (ids.length : Int)) = false := by have := HI.out; simp; omega
          have hr : oz = ob := by
            have := HI.out.2.2
            rw [List.drop_eq_nil_of_le (by have := HI.out; omega)] at this
            exact (Option.some.inj this).symm
          subst hr
          obtain ⟨Av, cv, rfl⟩ := Kd.R_slice HL.out.row
          have k1 : wr.cell? ⟨g1, 0, none⟩ = some (.slice Av oz.length cv) := (blk_cell HL.out.b1 0).trans rfl
          go_wp2_with (at_builtin; refine Kd.R_append (Kd.int .i64) (w0 := w0) w0.heap.size rfl (.tmp 26) (.tmp 28) 39 3 (.int .i64 0) 8 rfl Tryz.underlying39 info3 rfl (by decide) (by decide) (.slice Av oz.length cv) oz k [.int .i64 k] (fun _ => True) (fun _ => False) rfl rfl rfl (fun _ h => h.elim) (fun _ _ => trivial) HL.out.row HL.out.below HL.out.below.size (by have := HSZ.out; omega) ?_; intro v1 w1 hv1 hb1 hg1 hat; have HL9 := HL.out.lay hg1 hv1; have k9 : w1.cell? ⟨g1, 0, none⟩ = some (.slice Av oz.length cv) := (blk_cell HL9.2 0).trans rfl; have f9 := blk_frozen HL9.2 0; have HL8 := Aside0.mk HL9.1; obtain ⟨A9, c9, rfl⟩ := Kd.R_slice hv1; clear HL9 hv1 hb1 hg1 hat k1)
          first | go_end0 | ((try simp only [Exit.inBlock, Exit.then]); refine bodyPost_ret (results_none rfl _ _ _) rfl ?_)
          exact ⟨rfl, .slice A9 (oz.length + 1) c9, by have h8 := HL8.out; rw [show (oz ++ [k]).length = oz.length + 1 by simp] at h8; exact h8⟩
        | succ kq1 =>
          have h0 : 0 ≤ j := by have := HI.out; omega
          have h1 : j < (ids.length : Int) := by have := HI.out; omega
          have hge : decide (j < (ids.length : Int)) = true := decide_eq_true h1
          have hg0 : decide (0 ≤ j) = true := decide_eq_true h0
          obtain ⟨ad3, e3, hc⟩ := ReadsInt.at_ (Kd.reads_of_C (d := 0) HX.out : ReadsInt w0 .i64 A3 ids.length ids) j h0 h1
          cases e3
          replace hc := (HL.out.below.cell (World.block_lt_of_cell? w0 _ hc)).trans hc
          have hx : ids[j.toNat]? = some (rd ids j) := by
            have hl : j.toNat < ids.length := by omega
            simp [rd, List.getElem?_eq_getElem hl, List.getD_eq_getElem?_getD]
          have hst := HI.out.2.2
          rw [goO_drop l _ ids j.toNat (rd ids j) ob hx] at hst
          clear hx
          generalize rd ids j = id at *
          obtain ⟨o1, hw1, hst⟩ := Option.bind_eq_some_iff.1 hst
          have W1 := Aside0.mk hw1
          have ST := Aside0.mk hst
          clear hw1 hst
          have hw : Aside0 (wrap64 (j + 1) = j + 1 ∧ (j + 1).toNat = j.toNat + 1) := ⟨by have := HI.out; have := hlen.out; unfold wrap64; omega, by omega⟩
          replace h0 := eq_true h0
          replace h1 := eq_true h1
          go_wp2
          have HLd : Aside0 (OrderW w0 wr.drew g1 g2 g3 (some ad) c0 l vo ob) := ⟨HL.out.keep (below_drew1 (Below.refl _ _))⟩
          refine start_ (n := 5) (S := fun w' => w'.cell? ⟨g2, 0, none⟩ = some (.slice (some ad) l.length c0) ∧ w'.cell? ⟨g3, 0, none⟩ = some (.func (.func 116) #[] #[.pointer (some ⟨g1, 0, none⟩), .pointer (some ⟨g2, 0, none⟩), .pointer (some ⟨g3, 0, none⟩)])) (ds := []) #[false, false, false, false, false] (by kernel_rfl) rfl rfl ⟨(blk_cell HLd.out.b2 0).trans rfl, (blk_cell HLd.out.b3 0).trans rfl⟩ (fun hHeld => ?_); refine with_tabW order_walk.tab4 order_walk.bits4 (fun HT_ HW_ => ?_)
          clear HL
          have HL := HLd
          clear HLd
          generalize wr.drew = wd at HL hHeld ⊢
          refine pure_ (i := 2) (N := some 22) (v := ?_) (a' := ?_) #[false, false, true, false, false] rfl rfl (any_of HT_.out (by kernel_rfl)) (fun _ _ _ h => h) (Or.inl ⟨by rfl, ?_⟩) ?_ ?_
          rotate_left
          · intro w'
            go_simp
            with_reducible rfl
          rotate_left
          · simp only [Act.put, List.setIfInBounds_toArray, List.set_cons_zero, List.set_cons_succ, i64_w, i32_w]
            rfl
          refine take_ (i := 0) (N := some 20) (v := ?_) (a' := ?_) #[true, false, true, false, false] rfl rfl (take_ofW HT_.out HW_.out (by kernel_rfl)) (fun _ _ _ h => h) (Or.inl ⟨by rfl, ?_⟩) hHeld ?_ ?_
          rotate_left
          · rintro w' ⟨s0, s1⟩
            go_simp
            with_reducible rfl
          rotate_left
          · simp only [Act.put, List.setIfInBounds_toArray, List.set_cons_zero, List.set_cons_succ, i64_w, i32_w]
            rfl
          refine take_ (i := 1) (N := some 21) (v := ?_) (a' := ?_) #[true, true, true, false, false] rfl rfl (take_ofW HT_.out HW_.out (by kernel_rfl)) (fun _ _ _ h => h) (Or.inl ⟨by rfl, ?_⟩) hHeld ?_ ?_
          rotate_left
          · rintro w' ⟨s0, s1⟩
            go_simp
            with_reducible rfl
          rotate_left
          · simp only [Act.put, List.setIfInBounds_toArray, List.set_cons_zero, List.set_cons_succ, i64_w, i32_w]
            rfl
          refine one_ (i := 3) (N := some 23) #[true, true, true, true, false] rfl rfl (one_of HT_.out (by kernel_rfl)) (by decide) (fun K hK => ?_)
          refine goes_ Tryz.func55 (by kernel_rfl) rfl #[.slice (some ad) l.length c0, .int .i64 id] (by rfl) rfl rfl (by (try simp only [List.map_toArray, List.map_cons, List.map_nil]); first | done | rfl) ?_
          with_reducible refine (item_find.calls (some ad) c0 l id (findI l id) _ (Kd.C_below HR.out HL.out.below) HC0.out rfl).mono ?_
          rintro e w5 ⟨rfl, hb5⟩
          refine ⟨_, rfl, ?_⟩
          have HL5 := Aside0.mk (HL.out.keep hb5)
          clear hb5
          refine hK.out _ _ ⟨(blk_cell HL5.out.b2 0).trans rfl, (blk_cell HL5.out.b3 0).trans rfl⟩ (fun hHeld => ?_)
          clear hK K
          refine norm_ (a' := ?_) ?_ ?_
          rotate_left
          · show Act.put _ (some 23) _ = _
            simp only [Act.put, List.setIfInBounds_toArray, List.set_cons_zero, List.set_cons_succ, i64_w, i32_w]
            rfl
          refine one_ (i := 4) (N := some 24) #[true, true, true, true, true] rfl rfl (one_of HT_.out (by kernel_rfl)) (by decide) (fun K hK => ?_)
          refine call_ 116 #[.int .i64 (findI l id), .pointer (some ⟨g1, 0, none⟩), .pointer (some ⟨g2, 0, none⟩), .pointer (some ⟨g3, 0, none⟩)] (by rfl) rfl (by go_simp) ?_
          with_reducible refine (IH.out (findI l id) vo ob o1 _ g1 g2 g3 HL5.out W1.out).mono ?_
          rintro e w6 ⟨rfl, v6, hL6⟩
          refine ⟨_, rfl, ?_⟩
          have HL6 := Aside0.mk hL6
          clear hL6
          refine hK.out _ _ ⟨(blk_cell HL6.out.b2 0).trans rfl, (blk_cell HL6.out.b3 0).trans rfl⟩ (fun hHeld => ?_)
          clear hK K
          refine norm_ (a' := ?_) ?_ ?_
          rotate_left
          · show Act.put _ (some 24) _ = _
            simp only [Act.put, List.setIfInBounds_toArray, List.set_cons_zero, List.set_cons_succ, i64_w, i32_w]
            rfl
          refine done_ (done_of HT_.out (by kernel_rfl)) ?_
          go_wp2
          go_roundg kq1
          case measure => omega
          case rel => exact ⟨j + 1, v6, o1, congrArg _ hw.out.1, ⟨by have := HI.out; omega, by have := HI.out; omega, by rw [hw.out.2]; exact ST.out⟩, HL6⟩
end Go.Proofs.YtphkionjjhhhlaaGreat.Q
end
section
namespace Go.Proofs.YtphkionjjhhhlaaGreat.Q
open Go.RowKit Go.Proofs.YtphkionjjhhhlaaGreatW.PrintWords Go.Proofs.YtphkionjjhhhlaaGreatW.PrintLast Go.Proofs.YtphkionjjhhhlaaGreatW.PrintMore
def item_loops.f (l0 : List S68) (a1 : Int) : Option Bool :=
  if l0.length ≤ 1000000 ∧ 0 ≤ a1 ∧ a1 < (l0.length : Int) then (walkN l0 a1 (l0.length + 1) a1 (List.replicate l0.length false)).map (·.1) else none
set_option maxHeartbeats 16000000 in
set_option maxRecDepth 100000 in
theorem item_loops.calls (A0 : Option Addr) (c0 : Nat) (l0 : List S68) (a1 : Int) (r : Bool) (w : World) (hr0 : Kd.C k68 w A0 l0.length l0) (hc0 : l0.length ≤ c0) (h : item_loops.f l0 a1 = some r) :
    Calls Tryz.prog 58 #[.slice A0 l0.length c0, .int .i64 a1] w fun e w' => e = .returned (.bool r) ∧ Below w.heap.size w w' := by
  unfold item_loops.f at h
  split at h
  case isFalse => cases h
  case isTrue hk =>
  obtain ⟨r1, hw1, rfl⟩ := Option.map_eq_some_iff.1 h
  clear h
  have HK := Aside0.mk hk
  have HR := Aside0.mk hr0
  have HC0 := Aside0.mk hc0
  have HW := Aside0.mk hw1
  clear hw1 hk hr0 hc0
  have hmf := makeFunc_run
  have hen := enters_114
  go_enter Tryz.func58, Tryz.ntmps58
  go_wp2_with (first | ((with_reducible refine gate_dst (N := 9) rfl ?_); refine Kd.R_make Kd.bool _ 4 rfl (N := 9) rfl 93 _ _ rfl (l0.length : Int) rfl rfl Tryz.underlying93 (.bool false) 1 info4 rfl (by decide) (by omega) false (ok := fun _ => True) (okp := fun _ => True) rfl (fun _ hk => hk) trivial (by omega) (by have := HK.out.1; omega) (Below.refl _ _) (Nat.le_refl _) ?_; intro v1 w1 hv1 hb1 _ _; simp only [Int.toNat_natCast] at hv1; obtain ⟨gs, cs, rfl, _, _, _⟩ := Kd.R_form hv1 (by have := HK.out; simp; omega); simp only [List.length_replicate] at hv1; have BB1 := blk_below (blk_alloc (heap_alloc_new w (.cells #[.slice A0 l0.length c0] 35)) _) hb1; have BB2 := blk_below (heap_alloc_new (w.alloc (.cells #[.slice A0 l0.length c0] 35)) (.cells #[.int .i64 a1] 3)) hb1; simp only [World.size_alloc] at BB2; have k3 : ∀ o1 o2 : Obj, ((w1.alloc o1).alloc o2).cell? ⟨w.heap.size + 1, 0, none⟩ = some (.int .i64 a1) := fun o1 o2 => (blk_cell (blk_alloc (blk_alloc BB2 o1) o2) 0).trans rfl; have B1 := Aside0.mk BB1; have B2 := Aside0.mk BB2; clear BB1 BB2; have HV1 := Aside0.mk hv1; have BT : Aside0 (∀ o1 o2 : Obj, Below w.heap.size w ((w1.alloc o1).alloc o2)) := ⟨fun o1 o2 => below_alloc (below_alloc (pw_below_trans (below_alloc (below_alloc (Below.refl _ _) _) _) hb1) _) _⟩; clear hv1) | (go_at_call 114; (with_reducible refine (walk_any l0 a1 w A0 c0 HR.out HC0.out _ a1 _ r1 _ _ _ _ _ gs cs ?hL HW.out).mono ?_); (case hL => exact ⟨blk_alloc (blk_alloc B1.out _) _, blk_alloc (blk_alloc B2.out _) _, blk_alloc (heap_alloc_new w1 _) _, by have := heap_alloc_new (w1.alloc (.cells #[.slice (some ⟨gs, 0, none⟩) l0.length cs] 93)) (.cells #[.func (.func 114) #[] #[.pointer (some ⟨w.heap.size, 0, none⟩), .pointer (some ⟨w.heap.size + 1, 0, none⟩), .pointer (some ⟨w1.heap.size, 0, none⟩), .pointer (some ⟨w1.heap.size + 1, 0, none⟩)]] 92); rw [World.size_alloc] at this; exact this, Kd.R_lower (Kd.R_alloc (Kd.R_alloc HV1.out _) _) (by simp [World.size_alloc]; omega), by simp, BT.out _ _⟩); rintro e w' ⟨rfl, hL⟩; have HL := Aside0.mk hL; clear hL))
  go_ret
  exact ⟨rfl, HL.out.below⟩
end Go.Proofs.YtphkionjjhhhlaaGreat.Q
end
section
namespace Go.Proofs.YtphkionjjhhhlaaGreat.Q
open Go.RowKit Go.Proofs.YtphkionjjhhhlaaGreatW.PrintWords Go.Proofs.YtphkionjjhhhlaaGreatW.PrintLast Go.Proofs.YtphkionjjhhhlaaGreatW.PrintMore
def dioramaref00_HasInt.l0 : Nat → List Int → Int → Int → Option (Int)
  | 0, _, _, _ => none
  | k + 1, x0, x1, x5 => if x5 < (x0.length : Int) then (if 0 ≤ x5 then (if (rd x0 x5) = x1 then (some x5) else (dioramaref00_HasInt.l0 k x0 x1 (wrap64 (x5 + 1)))) else (none)) else (some (-1))
def dioramaref00_HasInt.f (k : Nat) (l0 : List Int) (a1 : Int) : Option (Int) := dioramaref00_HasInt.l0 k l0 a1 0
set_option maxHeartbeats 8000000 in
set_option maxRecDepth 100000 in
theorem dioramaref00_HasInt.calls (k : Nat) (A0 : Option Addr) (c0 : Nat) (l0 : List Int) (a1 : Int) (r : Int) (w : World) (hr0 : Kd.C (Kd.int .i64) w A0 l0.length l0) (hc0 : l0.length ≤ c0) (h : dioramaref00_HasInt.f k l0 a1 = some r) :
    Calls Tryz.prog 159 #[.slice A0 l0.length c0, .int .i64 a1] w fun e w' => e = .returned (.int .i64 r) ∧ Drawn0 w w' := by
  have HR0 := Aside0.mk hr0
  have HC0 := Aside0.mk hc0
  clear hr0 hc0
  have H : (dioramaref00_HasInt.l0 k l0 a1 0) = some r := h
  clear h
  have H' := Aside0.mk H
  clear H
  go_enter Tryz.func159, Tryz.ntmps159
  go_wp2
  go_loopg [5] k (fun kq v5 w' => ∃ (x5_1 : Int), v5 = .int .i64 x5_1 ∧ Aside0 (dioramaref00_HasInt.l0 kq l0 a1 x5_1 = some r) ∧ Aside0 (kq ≤ k) ∧ Drawn0 w w')
  case atStart => exact ⟨(0), (by first | rfl | (simp; done) | (simp [*]; done)), H', ⟨Nat.le_refl _⟩, by repeat (first | exact Drawn0.refl _ | apply Drawn0.step)⟩
  case round =>
    clear H'
    try clear c1
    try clear p2
    obtain ⟨x5_1, rfl, HA, HK1, ⟨m1, rfl⟩⟩ := hrel
    cases gk with
    | zero => exact absurd HA.out (by simp [dioramaref00_HasInt.l0])
    | succ k1 =>
      have H := HA.out
      clear HA
      simp only [dioramaref00_HasInt.l0] at H
      by_cases c3 : x5_1 < (l0.length : Int)
      · rw [if_pos c3] at H
        have c3b0 : decide (x5_1 < (l0.length : Int)) = true := decide_eq_true c3
        clear c3
        by_cases c4 : 0 ≤ x5_1
        · rw [if_pos c4] at H
          have c4b0 : decide (0 ≤ x5_1) = true := decide_eq_true c4
          clear c4
          by_cases c5 : (rd l0 x5_1) = a1
          · rw [if_pos c5] at H
            have c5b0 : ((rd l0 x5_1) == a1) = true := beq_iff_eq.mpr c5
            have c5b1 : ((rd l0 x5_1) != a1) = false := bne_eq_false_iff_eq.mpr c5
            clear c5
            obtain rfl := Option.some.inj H
            have p375 : 0 ≤ (x5_1 : Int) := of_decide_eq_true (by first | (with_reducible assumption) | assumption)
            have q375 : x5_1 < (l0.length : Int) := of_decide_eq_true (by first | (with_reducible assumption) | assumption)
            obtain ⟨ad375, e375, hx375_0⟩ := Kd.at_int HR0.out x5_1 p375 q375
            cases e375
            replace p375 := eq_true p375
            replace q375 := eq_true q375
            go_wp2
            go_ret
            exact ⟨by first | rfl | (simp; done) | (simp [*]; done), by repeat (first | exact Drawn0.refl _ | apply Drawn0.step)⟩
          · rw [if_neg c5] at H
            have c5b0 : ((rd l0 x5_1) == a1) = false := beq_eq_false_iff_ne.mpr c5
            have c5b1 : ((rd l0 x5_1) != a1) = true := bne_iff_ne.mpr c5
            have H' := Aside0.mk H
            clear H
            have p375 : 0 ≤ (x5_1 : Int) := of_decide_eq_true (by first | (with_reducible assumption) | assumption)
            have q375 : x5_1 < (l0.length : Int) := of_decide_eq_true (by first | (with_reducible assumption) | assumption)
            obtain ⟨ad375, e375, hx375_0⟩ := Kd.at_int HR0.out x5_1 p375 q375
            cases e375
            replace p375 := eq_true p375
            replace q375 := eq_true q375
            go_wp2
            go_roundg k1
            case measure => have := HK1.out; omega
            case rel => exact ⟨(wrap64 (x5_1 + 1)), (by first | rfl | (simp; done) | (simp [*]; done)), H', ⟨by have := HK1.out; omega⟩, by repeat (first | exact Drawn0.refl _ | apply Drawn0.step)⟩
        · rw [if_neg c4] at H
          exact absurd H (by simp)
      · rw [if_neg c3] at H
        have c3b0 : decide (x5_1 < (l0.length : Int)) = false := decide_eq_false c3
        clear c3
        obtain rfl := Option.some.inj H
        go_wp2
        go_ret
        exact ⟨by first | rfl | (simp; done) | (simp [*]; done), by repeat (first | exact Drawn0.refl _ | apply Drawn0.step)⟩
end Go.Proofs.YtphkionjjhhhlaaGreat.Q
end
section
namespace Go.Proofs.YtphkionjjhhhlaaGreat.Q
open Go.RowKit Go.Proofs.YtphkionjjhhhlaaGreatW.PrintWords Go.Proofs.YtphkionjjhhhlaaGreatW.PrintLast Go.Proofs.YtphkionjjhhhlaaGreatW.PrintMore
def dioramaref00_CopyInts.l0 : Nat → List Int → List Int → Int → Option (List Int)
  | 0, _, _, _ => none
  | k + 1, x0, x3, x4 => if x4 < (x0.length : Int) then (if 0 ≤ x4 then (if x3.length < 17592186044416 then (dioramaref00_CopyInts.l0 k x0 (x3 ++ [rd x0 x4]) (wrap64 (x4 + 1))) else (none)) else (none)) else (some x3)
def dioramaref00_CopyInts.f (k : Nat) (l0 : List Int) : Option (List Int) := if ((l0.length : Int) : Int).toNat ≤ 35184372088832 then (dioramaref00_CopyInts.l0 k l0 (([] : List Int)) 0) else (none)
set_option maxHeartbeats 8000000 in
set_option maxRecDepth 100000 in
theorem dioramaref00_CopyInts.calls (k : Nat) (A0 : Option Addr) (c0 : Nat) (l0 : List Int) (r : List Int) (w : World) (hr0 : Kd.C (Kd.int .i64) w A0 l0.length l0) (hc0 : l0.length ≤ c0) (h : dioramaref00_CopyInts.f k l0 = some r) :
    Calls Tryz.prog 88 #[.slice A0 l0.length c0] w fun e w' => ∃ v0_ : Value, e = .returned (v0_) ∧ Kd.R (Kd.int .i64) 3 w' w.heap.size (fun _ => True) v0_ r ∧ Below w.heap.size w w' := by
  have HR0 := Aside0.mk hr0
  have HC0 := Aside0.mk hc0
  clear hr0 hc0
  have HB := Aside0.mk (Below.refl w.heap.size w)
  have H : (if ((l0.length : Int) : Int).toNat ≤ 35184372088832 then (dioramaref00_CopyInts.l0 k l0 (([] : List Int)) 0) else (none)) = some r := h
  clear h
  by_cases c2 : ((l0.length : Int) : Int).toNat ≤ 35184372088832
  · rw [if_pos c2] at H
    have c2b0 := eq_true c2
    have c2b1 : decide (((l0.length : Int) : Int).toNat ≤ 35184372088832) = true := decide_eq_true c2
    clear c2
    obtain ⟨y136, hy136⟩ : ∃ y_ : List Int, y_ = (([] : List Int)) := ⟨_, rfl⟩
    replace H : (dioramaref00_CopyInts.l0 k l0 y136 0) = some r := by first | (rw [hy136]; with_reducible exact H) | (have H2_ := (Option.bind_some _ _).symm.trans H; rw [hy136]; with_reducible exact H2_) | (have H2_ := (Option.bind_some _ _).symm.trans H; with_reducible exact H2_) | with_reducible exact H | (rw [hy136]; exact H) | exact H
    have Ny136 := Aside0.mk hy136
    clear hy136
    have H' := Aside0.mk H
    clear H
    go_enter Tryz.func88, Tryz.ntmps88
    go_wp2_with (first | ((with_reducible refine gate_dst (N := 7) rfl ?_); refine Kd.R_makec (Kd.int .i64) _ 3 rfl (N := 7) rfl 39 _ _ rfl (l0.length : Int) rfl rfl Tryz.underlying39 (.int .i64 0) 8 info3 rfl (by decide) (by omega) (ok := fun _ => True) (okp := fun _ => True) (fun _ hk => hk) trivial (by omega) (Nat.le_trans (Nat.mul_le_mul_right _ (of_decide_eq_true (by first | (with_reducible assumption) | assumption) : ((l0.length : Int) : Int).toNat ≤ 35184372088832)) (by omega)) (Below.refl _ _) (Nat.le_refl _) ?_; intro v137 w3 ho4 hb hg_ hnew_; clear hg_ hnew_; (first | rw [← Ny136.out] at ho4 | (simp only [Int.reduceToNat] at ho4; rw [← Ny136.out] at ho4)); have n0_ := Aside0.mk (Kd.R_lower ho4 (below_size (by repeat (first | (with_reducible first | exact HB.out | apply below_alloc | apply pw_below_drewN | apply below_drew1) | exact HB.out)))); have n1_ := Aside0.mk (below_step (by repeat (first | (with_reducible first | exact HB.out | apply below_alloc | apply pw_below_drewN | apply below_drew1) | exact HB.out)) hb); clear HB; have HO138 := n0_; have HB := n1_; clear n0_ n1_; clear hb ho4))
    go_loopg [3, 4] k (fun kq v3 v4 w' => ∃ (x3_1 : List Int) (x4_1 : Int), v4 = .int .i64 x4_1 ∧ Aside0 (dioramaref00_CopyInts.l0 kq l0 x3_1 x4_1 = some r) ∧ Aside0 (kq ≤ k) ∧ Aside0 (Kd.R (Kd.int .i64) 3 w' w.heap.size (fun _ => True) v3 x3_1) ∧ Aside0 (Below w.heap.size w w'))
    case atStart => exact ⟨(y136), (0), (by first | rfl | (simp; done) | (simp [*]; done)), H', ⟨Nat.le_refl _⟩, ⟨by (with_reducible repeat (first | apply Kd.R_alloc | apply Kd.R_drewN | apply Kd.R_drew)); exact HO138.out⟩, ⟨by repeat (first | (with_reducible first | exact HB.out | apply below_alloc | apply pw_below_drewN | apply below_drew1) | exact HB.out)⟩⟩
    case round =>
      clear H'
      try clear c2
      try clear c2b0
      try clear c2b1
      try clear p2
      obtain ⟨x3_1, x4_1, rfl, HA, HK1, HO_3, HB⟩ := hrel
      cases gk with
      | zero => exact absurd HA.out (by simp [dioramaref00_CopyInts.l0])
      | succ k1 =>
        have H := HA.out
        clear HA
        simp only [dioramaref00_CopyInts.l0] at H
        by_cases c5 : x4_1 < (l0.length : Int)
        · rw [if_pos c5] at H
          have c5b0 : decide (x4_1 < (l0.length : Int)) = true := decide_eq_true c5
          clear c5
          by_cases c6 : 0 ≤ x4_1
          · rw [if_pos c6] at H
            have c6b0 : decide (0 ≤ x4_1) = true := decide_eq_true c6
            clear c6
            by_cases c7 : x3_1.length < 17592186044416
            · rw [if_pos c7] at H
              have LMc7 := Aside0.mk c7
              clear c7
              obtain ⟨y140, hy140⟩ : ∃ y_ : List Int, y_ = (x3_1 ++ [rd l0 x4_1]) := ⟨_, rfl⟩
              replace H : (dioramaref00_CopyInts.l0 k1 l0 y140 (wrap64 (x4_1 + 1))) = some r := by first | (rw [hy140]; with_reducible exact H) | (have H2_ := (Option.bind_some _ _).symm.trans H; rw [hy140]; with_reducible exact H2_) | (have H2_ := (Option.bind_some _ _).symm.trans H; with_reducible exact H2_) | with_reducible exact H | (rw [hy140]; exact H) | exact H
              have Ny140 := Aside0.mk hy140
              clear hy140
              have H' := Aside0.mk H
              clear H
              have p139 : 0 ≤ (x4_1 : Int) := of_decide_eq_true (by first | (with_reducible assumption) | assumption)
              have q139 : x4_1 < (l0.length : Int) := of_decide_eq_true (by first | (with_reducible assumption) | assumption)
              obtain ⟨ad139, e139, hx139_0⟩ := Kd.at_int HR0.out x4_1 p139 q139
              cases e139
              replace hx139_0 := (HB.out.cell (World.block_lt_of_cell? w _ hx139_0)).trans hx139_0
              replace p139 := eq_true p139
              replace q139 := eq_true q139
              go_wp2_with (first | ((with_reducible refine gate_builtin (b := .append) (xs := #[.tmp 14, .tmp 19]) rfl ?_); at_builtin; refine Kd.R_append (Kd.int .i64) (w0 := w) w.heap.size rfl (.tmp 14) (.tmp 19) 39 3 (.int .i64 0) 8 rfl Tryz.underlying39 info3 rfl (by decide) (by omega) u3 x3_1 (rd l0 x4_1) [.int .i64 (rd l0 x4_1)] (fun _ => True) (fun _ => False) rfl rfl ?aP (fun _ hk => hk.elim) ?aF ?aO ?aB ?aS ?aL ?_; (case aP => exact rfl); (case aB => exact (by repeat (first | (with_reducible first | exact HB.out | apply below_alloc | apply pw_below_drewN | apply below_drew1) | exact HB.out))); (case aF => exact (fun _ _ => trivial)); (case aO => exact (by (with_reducible repeat (first | apply Kd.R_alloc | apply Kd.R_drewN | apply Kd.R_drew)); exact HO_3.out)); (case aS => exact (below_size (by repeat (first | (with_reducible first | exact HB.out | apply below_alloc | apply pw_below_drewN | apply below_drew1) | exact HB.out)))); (case aL => have := LMc7.out; omega); intro v141 w8 ho hb hg hat; rw [← Ny140.out] at ho; have n0_ := Aside0.mk (hb); have n1_ := Aside0.mk (ho); clear HB; clear HO_3; have HB := n0_; have HO142 := n1_; clear n0_ n1_; clear ho hb hg hat))
              go_roundg k1
              case measure => have := HK1.out; omega
              case rel => exact ⟨(y140), (wrap64 (x4_1 + 1)), (by first | rfl | (simp; done) | (simp [*]; done)), H', ⟨by have := HK1.out; omega⟩, ⟨by (with_reducible repeat (first | apply Kd.R_alloc | apply Kd.R_drewN | apply Kd.R_drew)); exact HO142.out⟩, ⟨by repeat (first | (with_reducible first | exact HB.out | apply below_alloc | apply pw_below_drewN | apply below_drew1) | exact HB.out)⟩⟩
            · rw [if_neg c7] at H
              exact absurd H (by simp)
          · rw [if_neg c6] at H
            exact absurd H (by simp)
        · rw [if_neg c5] at H
          have c5b0 : decide (x4_1 < (l0.length : Int)) = false := decide_eq_false c5
          clear c5
          obtain rfl := Option.some.inj H
          go_wp2
          go_ret
          exact ⟨_, by first | rfl | (simp [errW_none, errW_some] <;> rfl) | (simp [*, errW_none, errW_some] <;> rfl), by (with_reducible repeat (first | apply Kd.R_alloc | apply Kd.R_drewN | apply Kd.R_drew)); exact HO_3.out, by repeat (first | (with_reducible first | exact HB.out | apply below_alloc | apply pw_below_drewN | apply below_drew1) | exact HB.out)⟩
  · rw [if_neg c2] at H
    exact absurd H (by simp)
end Go.Proofs.YtphkionjjhhhlaaGreat.Q
end
