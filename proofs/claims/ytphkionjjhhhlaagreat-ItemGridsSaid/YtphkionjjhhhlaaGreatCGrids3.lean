/- Lemmas and walks of this proof (part 3). -/
import Derived.Laws.Bits64b
import Derived.Laws.EntriesVeiled
import Derived.Test.YtphkionjjhhhlaaGreatCGrids2
set_option linter.unusedVariables false
set_option linter.unusedSimpArgs false
section
namespace Go.Proofs.YtphkionjjhhhlaaGreat.Q
open Go.RowKit Go.Proofs.YtphkionjjhhhlaaGreatW.PrintWords Go.Proofs.YtphkionjjhhhlaaGreatW.PrintLast Go.Proofs.YtphkionjjhhhlaaGreatW.PrintMore
theorem enters_57 : ∀ (args : Array Value) (W : World), (callFunc 57 args).run Tryz.prog W = .ok (.enter 57 args) W := enters_of Tryz.func57 (by kernel_rfl) rfl
def chkA : Int → List S68 → Option (Option (Int × Int))
 | _, [] => some none
 | i, x :: t => (item_ranges.f x.f0 x.f1 x.f2 x.f3 x.f4 x.f5 x.f6 x.f7 x.f8 x.f9 x.f10 x.f11).bind fun a => if a = false then some (some (1, i)) else (item_unused.f 4 x.f0 x.f1 x.f2 x.f3 x.f4 x.f5 x.f6 x.f7 x.f8 x.f9 x.f10 x.f11).bind fun b => if b = false then some (some (4, i)) else if 65536 < x.f2.length then some (some (4, i)) else chkA (i + 1) t
def chkB (l : List S68) : Int → List S68 → Option (Int × Int)
 | _, [] => none
 | i, x :: t => if findI l x.f0 < i then some (30, i) else if (x.f3.any fun id => decide (findI l id < 0)) = true then some (5, i) else chkB l (i + 1) t
def chkC (l : List S68) : Int → List S68 → Option (Option (Int × Int))
 | _, [] => some none
 | i, _ :: t => (item_loops.f l i).bind fun b => if b = true then some (some (150, i)) else chkC l (i + 1) t
def item_Check.f (l0 : List S68) : Option (Int × Int) :=
 if 12 < l0.length then some (2, -1) else (chkA 0 l0).bind fun a => match a with
  | some r => some r
  | none => match chkB l0 0 l0 with
   | some r => some r
   | none => (chkC l0 0 l0).bind fun c => match c with
    | some r => some r
    | none => some (0, -1)
set_option maxHeartbeats 8000000 in
set_option maxRecDepth 100000 in
theorem pred_57 (A0 : Option Addr) (c0 : Nat) (l0 : List S68) (gb : Nat) (w : World) (hr0 : Kd.C k68 w A0 l0.length l0) (hc0 : l0.length ≤ c0) (hb : w.heap[gb]? = some (.cells #[.slice A0 l0.length c0] 35 (0, 0))) : PredIn Tryz.prog 57 #[.pointer (some ⟨gb, 0, none⟩)] (fun _ (x : Int) v => v = .int .i64 x) (fun id => decide (findI l0 id < 0)) w := ⟨enters_57, fun W x v hW he => by
 subst he
 have k0 : W.cell? ⟨gb, 0, none⟩ = some (.slice A0 l0.length c0) := (bkc ((hW.block gb (blk_lt hb)).trans hb) 0).trans rfl
 have HR := As0.mk (Kd.C_below hr0 hW)
 have HC := As0.mk hc0
 clear hr0 hc0 hb hW
 simp only [List.append_toArray, List.cons_append, List.nil_append]
 go_enter Tryz.func57, Tryz.ntmps57
 go_wp2_with (go_at_call 55; (with_reducible refine (item_find.calls A0 c0 l0 x (findI l0 x) _ HR.out HC.out rfl).mono ?_); rintro e w' ⟨rfl, hb⟩; have HB := As0.mk hb; clear hb)
 go_ret
 exact ⟨rfl, HB.out⟩⟩
set_option maxHeartbeats 32000000 in
set_option maxRecDepth 100000 in
theorem item_Check.calls (A0 : Option Addr) (c0 : Nat) (l0 : List S68) (r1 : Int) (r2 : Int) (w : World) (hr0 : Kd.C k68 w A0 l0.length l0) (hc0 : l0.length ≤ c0) (h : item_Check.f l0 = some (r1, r2)) :
  Calls Tryz.prog 19 #[.slice A0 l0.length c0] w fun e w' => e = .returned (.tuple #[.int .i64 r1, .int .i64 r2]) ∧ Below w.heap.size w w' := by
 have HR := As0.mk hr0
 have HC := As0.mk hc0
 clear hr0 hc0
 have hu68 := Tryz.underlying68
 have hmf := makeFunc_run
 unfold item_Check.f at h
 by_cases hlen : 12 < l0.length
 ·rw [if_pos hlen] at h
  obtain ⟨rfl, rfl⟩ := Prod.mk.inj (Option.some.inj h)
  have d0 : decide (12 < (l0.length : Int)) = true := decide_eq_true (by omega)
  clear h hlen
  go_enter Tryz.func19, Tryz.ntmps19
  go_wp2
  go_ret2
  exact ⟨rfl, by repeat (first | exact Below.refl _ _ | apply bwa)⟩
 ·rw [if_neg hlen] at h
  have HL : As0 (l0.length ≤ 12) := ⟨by omega⟩
  have d0 : decide (12 < (l0.length : Int)) = false := decide_eq_false (by omega)
  clear hlen
  have H := As0.mk h
  clear h
  go_enter Tryz.func19, Tryz.ntmps19
  go_wp2
  have H2 : As0 (((chkA (0 : Int) (l0.drop (0 : Int).toNat)).bind fun a => match a with
   | some r => some r
   | none => match chkB l0 0 l0 with
    | some r => some r
    | none => (chkC l0 0 l0).bind fun c => match c with
     | some r => some r
     | none => some (0, -1)) = some (r1, r2)) := ⟨H.out⟩
  clear H
  go_loopg [14] l0.length (fun kq v14 w' => ∃ (i : Int), v14 = .int .i64 i ∧ As0 (0 ≤ i ∧ i + kq = l0.length) ∧ As0 (((chkA i (l0.drop i.toNat)).bind fun a => match a with
   | some r => some r
   | none => match chkB l0 0 l0 with
    | some r => some r
    | none => (chkC l0 0 l0).bind fun c => match c with
     | some r => some r
     | none => some (0, -1)) = some (r1, r2)) ∧ As0 (w'.heap[w.heap.size]? = some (.cells #[.slice A0 l0.length c0] 35 (0, 0))) ∧ As0 (Below w.heap.size w w'))
  case atStart => exact ⟨0, rfl, ⟨by omega, by omega⟩, H2, ⟨heap_alloc_new w _⟩, ⟨bwa (Below.refl _ _) _⟩⟩
  case round =>
   clear H2
   obtain ⟨i, rfl, HI, HST, BKb, HB⟩ := hrel
   cases gk with
   | zero =>
    have hge : decide (i < (l0.length : Int)) = false := by have := HI.out; simp; omega
    have hst := HST.out
    rw [List.drop_eq_nil_of_le (by have := HI.out; omega)] at hst
    clear HST
    have HST := As0.mk hst
    clear hst
    have kb : wr.cell? ⟨w.heap.size, 0, none⟩ = some (.slice A0 l0.length c0) := (bkc BKb.out 0).trans rfl
    go_wp2
    clear kb
    go_loopg [36] l0.length (fun kq v36 w' => ∃ (i : Int), v36 = .int .i64 i ∧ As0 (0 ≤ i ∧ i + kq = l0.length) ∧ As0 ((match chkB l0 i (l0.drop i.toNat) with
       | some r => some r
       | none => (chkC l0 0 l0).bind fun c => match c with
        | some r => some r
        | none => some (0, -1)) = some (r1, r2)) ∧ As0 (w'.heap[w.heap.size]? = some (.cells #[.slice A0 l0.length c0] 35 (0, 0))) ∧ As0 (Below w.heap.size w w'))
    case atStart => exact ⟨0, rfl, ⟨by omega, by omega⟩, ⟨HST.out⟩, BKb, HB⟩
    case round =>
     clear HST BKb HB HI hge
     obtain ⟨i, rfl, HI, HST, BKb, HB⟩ := hrel
     have kb : wr.cell? ⟨w.heap.size, 0, none⟩ = some (.slice A0 l0.length c0) := (bkc BKb.out 0).trans rfl
     have kba : ∀ o : Obj, (wr.alloc o).cell? ⟨w.heap.size, 0, none⟩ = some (.slice A0 l0.length c0) := fun o => (bkc (bka BKb.out o) 0).trans rfl
     cases gk with
     | zero =>
      have hge : decide (i < (l0.length : Int)) = false := by have := HI.out; simp; omega
      have hst := HST.out
      rw [List.drop_eq_nil_of_le (by have := HI.out; omega)] at hst
      simp only [chkB] at hst
      have H3 : As0 (((chkC l0 (0 : Int) (l0.drop (0 : Int).toNat)).bind fun c => match c with
        | some r => some r
        | none => some (0, -1)) = some (r1, r2)) := ⟨hst⟩
      clear hst HST kba
      go_wp2
      clear kb
      go_loopg [56] l0.length (fun kq v56 w' => ∃ (i : Int), v56 = .int .i64 i ∧ As0 (0 ≤ i ∧ i + kq = l0.length) ∧ As0 (((chkC l0 i (l0.drop i.toNat)).bind fun c => match c with
        | some r => some r
        | none => some (0, -1)) = some (r1, r2)) ∧ As0 (w'.heap[w.heap.size]? = some (.cells #[.slice A0 l0.length c0] 35 (0, 0))) ∧ As0 (Below w.heap.size w w'))
      case atStart => exact ⟨0, rfl, ⟨by omega, by omega⟩, H3, BKb, HB⟩
      case round =>
       clear H3 BKb HB HI hge
       obtain ⟨i, rfl, HI, HST, BKb, HB⟩ := hrel
       have kb : wr.cell? ⟨w.heap.size, 0, none⟩ = some (.slice A0 l0.length c0) := (bkc BKb.out 0).trans rfl
       cases gk with
       | zero =>
        have hge : decide (i < (l0.length : Int)) = false := by have := HI.out; simp; omega
        have hst := HST.out
        rw [List.drop_eq_nil_of_le (by have := HI.out; omega)] at hst
        simp only [chkC, Option.bind_some] at hst
        obtain ⟨rfl, rfl⟩ := Prod.mk.inj (Option.some.inj hst)
        clear hst HST
        go_wp2
        go_ret2
        exact ⟨rfl, HB.out⟩
       | succ kq3 =>
        have hil : i.toNat < l0.length := by have := HI.out; omega
        have hge : decide (i < (l0.length : Int)) = true := by have := HI.out; simp; omega
        have hst := HST.out
        rw [List.drop_eq_getElem_cons hil] at hst
        simp only [chkC] at hst
        rw [Option.bind_assoc] at hst
        obtain ⟨lb, hlb, hst⟩ := Option.bind_eq_some_iff.1 hst
        have HLB := As0.mk hlb
        clear hlb HST hil
        have hw : As0 (wrap64 (i + 1) = i + 1 ∧ (i + 1).toNat = i.toNat + 1) := ⟨by have := HI.out; have := HL.out; unfold wrap64; omega, by have := HI.out; omega⟩
        cases hlbb : lb with
        | true =>
         subst hlbb
         simp only [if_true, Option.bind_some] at hst
         obtain ⟨rfl, rfl⟩ := Prod.mk.inj (Option.some.inj hst)
         clear hst
         go_wp2_with (go_at_call 58; (with_reducible refine (item_loops.calls A0 c0 l0 i _ _ (Kd.C_below HR.out HB.out) HC.out HLB.out).mono ?_); rintro e w5 ⟨rfl, hb⟩; have HB5 := As0.mk hb; clear hb)
         go_ret2
         exact ⟨rfl, pwt HB.out HB5.out⟩
        | false =>
         subst hlbb
         simp only [Bool.false_eq_true, if_false] at hst
         have HST := As0.mk hst
         clear hst
         go_wp2_with (go_at_call 58; (with_reducible refine (item_loops.calls A0 c0 l0 i _ _ (Kd.C_below HR.out HB.out) HC.out HLB.out).mono ?_); rintro e w5 ⟨rfl, hb⟩; have HB5 := As0.mk hb; clear hb)
         go_roundg kq3
         case measure => omega
         case rel => exact ⟨i + 1, congrArg _ hw.out.1, ⟨by have := HI.out; omega, by have := HI.out; omega⟩, ⟨by rw [hw.out.2]; exact HST.out⟩, ⟨bkb BKb.out HB5.out⟩, ⟨pwt HB.out HB5.out⟩⟩
     | succ kq2 =>
      have h0 : 0 ≤ i := by have := HI.out; omega
      have h1 : i < (l0.length : Int) := by have := HI.out; omega
      have hge : decide (i < (l0.length : Int)) = true := decide_eq_true h1
      have hg0 : decide (0 ≤ i) = true := decide_eq_true h0
      have hl12 := HL.out
      obtain ⟨ad, A2, c2, A3, c3, A4, c4, A9, c9, e0, hx0, hx1, hx2, hx3, hx4, hx5, hx6, hx7, hx8, hx9, hx10, hx11, g1, g2, g3, g4, g5, g6, g7, g8⟩ := at_T68 (Kd.C_below HR.out HB.out) i h0 h1
      cases e0
      have HX := As0.mk (And.intro g1 (And.intro g2 (And.intro g3 (And.intro g4 (And.intro g5 (And.intro g6 (And.intro g7 g8)))))))
      clear g1 g2 g3 g4 g5 g6 g7 g8
      have hdr : l0.drop i.toNat = rd_T68 l0 i :: l0.drop (i.toNat + 1) := by
       have hl : i.toNat < l0.length := by omega
       rw [List.drop_eq_getElem_cons hl]
       congr 1
       simp [rd_T68, List.getD_eq_getElem?_getD, hl]
      have hst := HST.out
      rw [hdr] at hst
      clear hdr HST
      generalize rd_T68 l0 i = x at *
      have hw : As0 (wrap64 (i + 1) = i + 1 ∧ (i + 1).toNat = i.toNat + 1) := ⟨by have := HI.out; have := HL.out; unfold wrap64; omega, by omega⟩
      replace h0 := eq_true h0
      replace h1 := eq_true h1
      clear hl12
      simp only [chkB] at hst
      by_cases hf : findI l0 x.f0 < i
      ·rw [if_pos hf] at hst
       obtain ⟨rfl, rfl⟩ := Prod.mk.inj (Option.some.inj hst)
       clear hst
       have df : decide (findI l0 x.f0 < i) = true := decide_eq_true hf
       clear hf
       go_wp2_with (first | (go_at_call 55; (with_reducible refine (item_find.calls (some ad) c0 l0 x.f0 (findI l0 x.f0) _ (Kd.C_alloc (Kd.C_below HR.out HB.out) _) HC.out rfl).mono ?_); rintro e w5 ⟨rfl, hb⟩; have BK5 := As0.mk (bkb (heap_alloc_new wr (.cells #[.int .i64 x.f0, .int .i64 x.f1, .slice A2 x.f2.length c2, .slice A3 x.f3.length c3, .slice A4 x.f4.length c4, .int .i64 x.f5, .int .i64 x.f6, .int .i64 x.f7, .int .i64 x.f8, .slice A9 x.f9.length c9, .int .i64 x.f10, .bool x.f11] 68)) hb); have HB5 := As0.mk (pwt (bwa (Below.refl _ _) _) hb); have j0 : w5.cell? ⟨w.heap.size, 0, none⟩ = some (.slice (some ad) l0.length c0) := (bkc (bkb BKb.out HB5.out) 0).trans rfl; clear hb; have j3 : w5.cell? ⟨wr.heap.size, 3, none⟩ = some (.slice A3 x.f3.length c3) := (bkc BK5.out 3).trans rfl))
       go_ret2
       exact ⟨rfl, pwt HB.out HB5.out⟩
      ·rw [if_neg hf] at hst
       have df : decide (findI l0 x.f0 < i) = false := decide_eq_false hf
       clear hf
       cases ha : (x.f3.any fun id => decide (findI l0 id < 0)) with
       | true =>
        rw [if_pos ha] at hst
        obtain ⟨rfl, rfl⟩ := Prod.mk.inj (Option.some.inj hst)
        have ANY := As0.mk ha
        clear hst ha
        go_wp2_with (first | (go_at_call 55; (with_reducible refine (item_find.calls (some ad) c0 l0 x.f0 (findI l0 x.f0) _ (Kd.C_alloc (Kd.C_below HR.out HB.out) _) HC.out rfl).mono ?_); rintro e w5 ⟨rfl, hb⟩; have BK5 := As0.mk (bkb (heap_alloc_new wr (.cells #[.int .i64 x.f0, .int .i64 x.f1, .slice A2 x.f2.length c2, .slice A3 x.f3.length c3, .slice A4 x.f4.length c4, .int .i64 x.f5, .int .i64 x.f6, .int .i64 x.f7, .int .i64 x.f8, .slice A9 x.f9.length c9, .int .i64 x.f10, .bool x.f11] 68)) hb); have HB5 := As0.mk (pwt (bwa (Below.refl _ _) _) hb); have j0 : w5.cell? ⟨w.heap.size, 0, none⟩ = some (.slice (some ad) l0.length c0) := (bkc (bkb BKb.out HB5.out) 0).trans rfl; clear hb; have j3 : w5.cell? ⟨wr.heap.size, 3, none⟩ = some (.slice A3 x.f3.length c3) := (bkc BK5.out 3).trans rfl) | (go_at_call 56; (with_reducible refine (ContainsFunc_int.calls 57 #[.pointer (some ⟨w.heap.size, 0, none⟩)] (fun id => decide (findI l0 id < 0)) A3 c3 x.f3 _ (Kd.C_below HX.out.2.2.2.1 HB5.out) (pred_57 (some ad) c0 l0 w.heap.size _ (Kd.C_below (Kd.C_below HR.out HB.out) HB5.out) HC.out (bkb BKb.out HB5.out))).mono ?_); rintro e w6 ⟨rfl, hb⟩; have HB6 := As0.mk (pwt HB5.out hb); clear hb; try rw [ANY.out]))
        go_ret2
        exact ⟨rfl, pwt HB.out HB6.out⟩
       | false =>
        rw [if_neg (by rw [ha]; decide)] at hst
        have HST := As0.mk hst
        have ANY := As0.mk ha
        clear hst ha
        go_wp2_with (first | (go_at_call 55; (with_reducible refine (item_find.calls (some ad) c0 l0 x.f0 (findI l0 x.f0) _ (Kd.C_alloc (Kd.C_below HR.out HB.out) _) HC.out rfl).mono ?_); rintro e w5 ⟨rfl, hb⟩; have BK5 := As0.mk (bkb (heap_alloc_new wr (.cells #[.int .i64 x.f0, .int .i64 x.f1, .slice A2 x.f2.length c2, .slice A3 x.f3.length c3, .slice A4 x.f4.length c4, .int .i64 x.f5, .int .i64 x.f6, .int .i64 x.f7, .int .i64 x.f8, .slice A9 x.f9.length c9, .int .i64 x.f10, .bool x.f11] 68)) hb); have HB5 := As0.mk (pwt (bwa (Below.refl _ _) _) hb); have j0 : w5.cell? ⟨w.heap.size, 0, none⟩ = some (.slice (some ad) l0.length c0) := (bkc (bkb BKb.out HB5.out) 0).trans rfl; clear hb; have j3 : w5.cell? ⟨wr.heap.size, 3, none⟩ = some (.slice A3 x.f3.length c3) := (bkc BK5.out 3).trans rfl) | (go_at_call 56; (with_reducible refine (ContainsFunc_int.calls 57 #[.pointer (some ⟨w.heap.size, 0, none⟩)] (fun id => decide (findI l0 id < 0)) A3 c3 x.f3 _ (Kd.C_below HX.out.2.2.2.1 HB5.out) (pred_57 (some ad) c0 l0 w.heap.size _ (Kd.C_below (Kd.C_below HR.out HB.out) HB5.out) HC.out (bkb BKb.out HB5.out))).mono ?_); rintro e w6 ⟨rfl, hb⟩; have HB6 := As0.mk (pwt HB5.out hb); clear hb; try rw [ANY.out]))
        go_roundg kq2
        case measure => omega
        case rel => exact ⟨i + 1, congrArg _ hw.out.1, ⟨by have := HI.out; omega, by have := HI.out; omega⟩, ⟨by rw [hw.out.2]; exact HST.out⟩, ⟨bkb BKb.out HB6.out⟩, ⟨pwt HB.out HB6.out⟩⟩
   | succ kq1 =>
    have h0 : 0 ≤ i := by have := HI.out; omega
    have h1 : i < (l0.length : Int) := by have := HI.out; omega
    have hge : decide (i < (l0.length : Int)) = true := decide_eq_true h1
    have hg0 : decide (0 ≤ i) = true := decide_eq_true h0
    have hl12 := HL.out
    obtain ⟨ad, A2, c2, A3, c3, A4, c4, A9, c9, e0, hx0, hx1, hx2, hx3, hx4, hx5, hx6, hx7, hx8, hx9, hx10, hx11, g1, g2, g3, g4, g5, g6, g7, g8⟩ := at_T68 (Kd.C_below HR.out HB.out) i h0 h1
    cases e0
    have HX := As0.mk (And.intro g1 (And.intro g2 (And.intro g3 (And.intro g4 (And.intro g5 (And.intro g6 (And.intro g7 g8)))))))
    clear g1 g2 g3 g4 g5 g6 g7 g8
    have hdr : l0.drop i.toNat = rd_T68 l0 i :: l0.drop (i.toNat + 1) := by
     have hl : i.toNat < l0.length := by omega
     rw [List.drop_eq_getElem_cons hl]
     congr 1
     simp [rd_T68, List.getD_eq_getElem?_getD, hl]
    have hst := HST.out
    rw [hdr] at hst
    clear hdr HST
    generalize rd_T68 l0 i = x at *
    have hw : As0 (wrap64 (i + 1) = i + 1 ∧ (i + 1).toNat = i.toNat + 1) := ⟨by have := HI.out; have := HL.out; unfold wrap64; omega, by omega⟩
    replace h0 := eq_true h0
    replace h1 := eq_true h1
    clear hl12
    simp only [chkA, Option.bind_assoc] at hst
    obtain ⟨ra, hra, hst⟩ := Option.bind_eq_some_iff.1 hst
    have HRA := As0.mk hra
    clear hra
    cases hrab : ra with
    | false =>
     subst hrab
     simp only [if_true, Option.bind_some] at hst
     obtain ⟨rfl, rfl⟩ := Prod.mk.inj (Option.some.inj hst)
     clear hst
     have RA : As0 (True) := ⟨trivial⟩
     go_wp2_with (first | (go_at_call 53; (with_reducible refine (item_ranges.calls x.f0 x.f1 A2 c2 x.f2 A3 c3 x.f3 A4 c4 x.f4 x.f5 x.f6 x.f7 x.f8 A9 c9 x.f9 x.f10 x.f11 _ _ ?s2 HX.out.1 ?s3 HX.out.2.2.1 ?s4 HX.out.2.2.2.2.1 ?s9 HX.out.2.2.2.2.2.2.1 HRA.out).mono ?_); (case s2 => exact Kd.C_alloc (HX.out.2.1) _); (case s3 => exact Kd.C_alloc (HX.out.2.2.2.1) _); (case s4 => exact Kd.C_alloc (HX.out.2.2.2.2.2.1) _); (case s9 => exact Kd.C_alloc (HX.out.2.2.2.2.2.2.2) _); rintro e w5 ⟨rfl, hb⟩; have BK5 := As0.mk (bkb (heap_alloc_new wr (.cells #[.int .i64 x.f0, .int .i64 x.f1, .slice A2 x.f2.length c2, .slice A3 x.f3.length c3, .slice A4 x.f4.length c4, .int .i64 x.f5, .int .i64 x.f6, .int .i64 x.f7, .int .i64 x.f8, .slice A9 x.f9.length c9, .int .i64 x.f10, .bool x.f11] 68)) hb); have HB5 := As0.mk (pwt (bwa (Below.refl _ _) _) hb); clear hb; have j0 : w5.cell? ⟨wr.heap.size, 0, none⟩ = some (.int .i64 x.f0) := (bkc BK5.out 0).trans rfl; have j1 : w5.cell? ⟨wr.heap.size, 1, none⟩ = some (.int .i64 x.f1) := (bkc BK5.out 1).trans rfl; have j2 : w5.cell? ⟨wr.heap.size, 2, none⟩ = some (.slice A2 x.f2.length c2) := (bkc BK5.out 2).trans rfl; have j3 : w5.cell? ⟨wr.heap.size, 3, none⟩ = some (.slice A3 x.f3.length c3) := (bkc BK5.out 3).trans rfl; have j4 : w5.cell? ⟨wr.heap.size, 4, none⟩ = some (.slice A4 x.f4.length c4) := (bkc BK5.out 4).trans rfl; have j5 : w5.cell? ⟨wr.heap.size, 5, none⟩ = some (.int .i64 x.f5) := (bkc BK5.out 5).trans rfl; have j6 : w5.cell? ⟨wr.heap.size, 6, none⟩ = some (.int .i64 x.f6) := (bkc BK5.out 6).trans rfl; have j7 : w5.cell? ⟨wr.heap.size, 7, none⟩ = some (.int .i64 x.f7) := (bkc BK5.out 7).trans rfl; have j8 : w5.cell? ⟨wr.heap.size, 8, none⟩ = some (.int .i64 x.f8) := (bkc BK5.out 8).trans rfl; have j9 : w5.cell? ⟨wr.heap.size, 9, none⟩ = some (.slice A9 x.f9.length c9) := (bkc BK5.out 9).trans rfl; have j10 : w5.cell? ⟨wr.heap.size, 10, none⟩ = some (.int .i64 x.f10) := (bkc BK5.out 10).trans rfl; have j11 : w5.cell? ⟨wr.heap.size, 11, none⟩ = some (.bool x.f11) := (bkc BK5.out 11).trans rfl))
     go_ret2
     exact ⟨rfl, pwt HB.out HB5.out⟩
    | true =>
     subst hrab
     simp only [Bool.true_eq_false, if_false] at hst
     rw [Option.bind_assoc] at hst
     obtain ⟨ub, hub, hst⟩ := Option.bind_eq_some_iff.1 hst
     have HUB := As0.mk hub
     clear hub
     have RA : As0 (True) := ⟨trivial⟩
     have UB : As0 (True) := ⟨trivial⟩
     cases hubb : ub with
     | false =>
      subst hubb
      simp only [if_true, Option.bind_some] at hst
      obtain ⟨rfl, rfl⟩ := Prod.mk.inj (Option.some.inj hst)
      clear hst
      go_wp2_with (first | (go_at_call 53; (with_reducible refine (item_ranges.calls x.f0 x.f1 A2 c2 x.f2 A3 c3 x.f3 A4 c4 x.f4 x.f5 x.f6 x.f7 x.f8 A9 c9 x.f9 x.f10 x.f11 _ _ ?s2 HX.out.1 ?s3 HX.out.2.2.1 ?s4 HX.out.2.2.2.2.1 ?s9 HX.out.2.2.2.2.2.2.1 HRA.out).mono ?_); (case s2 => exact Kd.C_alloc (HX.out.2.1) _); (case s3 => exact Kd.C_alloc (HX.out.2.2.2.1) _); (case s4 => exact Kd.C_alloc (HX.out.2.2.2.2.2.1) _); (case s9 => exact Kd.C_alloc (HX.out.2.2.2.2.2.2.2) _); rintro e w5 ⟨rfl, hb⟩; have BK5 := As0.mk (bkb (heap_alloc_new wr (.cells #[.int .i64 x.f0, .int .i64 x.f1, .slice A2 x.f2.length c2, .slice A3 x.f3.length c3, .slice A4 x.f4.length c4, .int .i64 x.f5, .int .i64 x.f6, .int .i64 x.f7, .int .i64 x.f8, .slice A9 x.f9.length c9, .int .i64 x.f10, .bool x.f11] 68)) hb); have HB5 := As0.mk (pwt (bwa (Below.refl _ _) _) hb); clear hb; have j0 : w5.cell? ⟨wr.heap.size, 0, none⟩ = some (.int .i64 x.f0) := (bkc BK5.out 0).trans rfl; have j1 : w5.cell? ⟨wr.heap.size, 1, none⟩ = some (.int .i64 x.f1) := (bkc BK5.out 1).trans rfl; have j2 : w5.cell? ⟨wr.heap.size, 2, none⟩ = some (.slice A2 x.f2.length c2) := (bkc BK5.out 2).trans rfl; have j3 : w5.cell? ⟨wr.heap.size, 3, none⟩ = some (.slice A3 x.f3.length c3) := (bkc BK5.out 3).trans rfl; have j4 : w5.cell? ⟨wr.heap.size, 4, none⟩ = some (.slice A4 x.f4.length c4) := (bkc BK5.out 4).trans rfl; have j5 : w5.cell? ⟨wr.heap.size, 5, none⟩ = some (.int .i64 x.f5) := (bkc BK5.out 5).trans rfl; have j6 : w5.cell? ⟨wr.heap.size, 6, none⟩ = some (.int .i64 x.f6) := (bkc BK5.out 6).trans rfl; have j7 : w5.cell? ⟨wr.heap.size, 7, none⟩ = some (.int .i64 x.f7) := (bkc BK5.out 7).trans rfl; have j8 : w5.cell? ⟨wr.heap.size, 8, none⟩ = some (.int .i64 x.f8) := (bkc BK5.out 8).trans rfl; have j9 : w5.cell? ⟨wr.heap.size, 9, none⟩ = some (.slice A9 x.f9.length c9) := (bkc BK5.out 9).trans rfl; have j10 : w5.cell? ⟨wr.heap.size, 10, none⟩ = some (.int .i64 x.f10) := (bkc BK5.out 10).trans rfl; have j11 : w5.cell? ⟨wr.heap.size, 11, none⟩ = some (.bool x.f11) := (bkc BK5.out 11).trans rfl) | (go_at_call 54; (with_reducible refine (item_unused.calls 4 x.f0 x.f1 A2 c2 x.f2 A3 c3 x.f3 A4 c4 x.f4 x.f5 x.f6 x.f7 x.f8 A9 c9 x.f9 x.f10 x.f11 _ _ ?s2 HX.out.1 ?s3 HX.out.2.2.1 ?s4 HX.out.2.2.2.2.1 ?s9 HX.out.2.2.2.2.2.2.1 HUB.out).mono ?_); (case s2 => exact Kd.C_below HX.out.2.1 HB5.out); (case s3 => exact Kd.C_below HX.out.2.2.2.1 HB5.out); (case s4 => exact Kd.C_below HX.out.2.2.2.2.2.1 HB5.out); (case s9 => exact Kd.C_below HX.out.2.2.2.2.2.2.2 HB5.out); rintro e w6 ⟨rfl, hb⟩; have BK6 := As0.mk (bkb BK5.out hb); have HB6 := As0.mk (pwt HB5.out hb); clear hb; clear j0 j1 j2 j3 j4 j5 j6 j7 j8 j9 j10 j11; have j2 : w6.cell? ⟨wr.heap.size, 2, none⟩ = some (.slice A2 x.f2.length c2) := (bkc BK6.out 2).trans rfl))
      go_ret2
      exact ⟨rfl, pwt HB.out HB6.out⟩
     | true =>
      subst hubb
      simp only [Bool.true_eq_false, if_false] at hst
      by_cases hlx : 65536 < x.f2.length
      ·rw [if_pos hlx] at hst
       simp only [Option.bind_some] at hst
       obtain ⟨rfl, rfl⟩ := Prod.mk.inj (Option.some.inj hst)
       clear hst
       have dx : decide (65536 < (x.f2.length : Int)) = true := decide_eq_true (by omega)
       clear hlx
       go_wp2_with (first | (go_at_call 53; (with_reducible refine (item_ranges.calls x.f0 x.f1 A2 c2 x.f2 A3 c3 x.f3 A4 c4 x.f4 x.f5 x.f6 x.f7 x.f8 A9 c9 x.f9 x.f10 x.f11 _ _ ?s2 HX.out.1 ?s3 HX.out.2.2.1 ?s4 HX.out.2.2.2.2.1 ?s9 HX.out.2.2.2.2.2.2.1 HRA.out).mono ?_); (case s2 => exact Kd.C_alloc (HX.out.2.1) _); (case s3 => exact Kd.C_alloc (HX.out.2.2.2.1) _); (case s4 => exact Kd.C_alloc (HX.out.2.2.2.2.2.1) _); (case s9 => exact Kd.C_alloc (HX.out.2.2.2.2.2.2.2) _); rintro e w5 ⟨rfl, hb⟩; have BK5 := As0.mk (bkb (heap_alloc_new wr (.cells #[.int .i64 x.f0, .int .i64 x.f1, .slice A2 x.f2.length c2, .slice A3 x.f3.length c3, .slice A4 x.f4.length c4, .int .i64 x.f5, .int .i64 x.f6, .int .i64 x.f7, .int .i64 x.f8, .slice A9 x.f9.length c9, .int .i64 x.f10, .bool x.f11] 68)) hb); have HB5 := As0.mk (pwt (bwa (Below.refl _ _) _) hb); clear hb; have j0 : w5.cell? ⟨wr.heap.size, 0, none⟩ = some (.int .i64 x.f0) := (bkc BK5.out 0).trans rfl; have j1 : w5.cell? ⟨wr.heap.size, 1, none⟩ = some (.int .i64 x.f1) := (bkc BK5.out 1).trans rfl; have j2 : w5.cell? ⟨wr.heap.size, 2, none⟩ = some (.slice A2 x.f2.length c2) := (bkc BK5.out 2).trans rfl; have j3 : w5.cell? ⟨wr.heap.size, 3, none⟩ = some (.slice A3 x.f3.length c3) := (bkc BK5.out 3).trans rfl; have j4 : w5.cell? ⟨wr.heap.size, 4, none⟩ = some (.slice A4 x.f4.length c4) := (bkc BK5.out 4).trans rfl; have j5 : w5.cell? ⟨wr.heap.size, 5, none⟩ = some (.int .i64 x.f5) := (bkc BK5.out 5).trans rfl; have j6 : w5.cell? ⟨wr.heap.size, 6, none⟩ = some (.int .i64 x.f6) := (bkc BK5.out 6).trans rfl; have j7 : w5.cell? ⟨wr.heap.size, 7, none⟩ = some (.int .i64 x.f7) := (bkc BK5.out 7).trans rfl; have j8 : w5.cell? ⟨wr.heap.size, 8, none⟩ = some (.int .i64 x.f8) := (bkc BK5.out 8).trans rfl; have j9 : w5.cell? ⟨wr.heap.size, 9, none⟩ = some (.slice A9 x.f9.length c9) := (bkc BK5.out 9).trans rfl; have j10 : w5.cell? ⟨wr.heap.size, 10, none⟩ = some (.int .i64 x.f10) := (bkc BK5.out 10).trans rfl; have j11 : w5.cell? ⟨wr.heap.size, 11, none⟩ = some (.bool x.f11) := (bkc BK5.out 11).trans rfl) | (go_at_call 54; (with_reducible refine (item_unused.calls 4 x.f0 x.f1 A2 c2 x.f2 A3 c3 x.f3 A4 c4 x.f4 x.f5 x.f6 x.f7 x.f8 A9 c9 x.f9 x.f10 x.f11 _ _ ?s2 HX.out.1 ?s3 HX.out.2.2.1 ?s4 HX.out.2.2.2.2.1 ?s9 HX.out.2.2.2.2.2.2.1 HUB.out).mono ?_); (case s2 => exact Kd.C_below HX.out.2.1 HB5.out); (case s3 => exact Kd.C_below HX.out.2.2.2.1 HB5.out); (case s4 => exact Kd.C_below HX.out.2.2.2.2.2.1 HB5.out); (case s9 => exact Kd.C_below HX.out.2.2.2.2.2.2.2 HB5.out); rintro e w6 ⟨rfl, hb⟩; have BK6 := As0.mk (bkb BK5.out hb); have HB6 := As0.mk (pwt HB5.out hb); clear hb; clear j0 j1 j2 j3 j4 j5 j6 j7 j8 j9 j10 j11; have j2 : w6.cell? ⟨wr.heap.size, 2, none⟩ = some (.slice A2 x.f2.length c2) := (bkc BK6.out 2).trans rfl))
       go_ret2
       exact ⟨rfl, pwt HB.out HB6.out⟩
      ·rw [if_neg hlx] at hst
       have HST := As0.mk hst
       clear hst
       have dx : decide (65536 < (x.f2.length : Int)) = false := decide_eq_false (by omega)
       clear hlx
       go_wp2_with (first | (go_at_call 53; (with_reducible refine (item_ranges.calls x.f0 x.f1 A2 c2 x.f2 A3 c3 x.f3 A4 c4 x.f4 x.f5 x.f6 x.f7 x.f8 A9 c9 x.f9 x.f10 x.f11 _ _ ?s2 HX.out.1 ?s3 HX.out.2.2.1 ?s4 HX.out.2.2.2.2.1 ?s9 HX.out.2.2.2.2.2.2.1 HRA.out).mono ?_); (case s2 => exact Kd.C_alloc (HX.out.2.1) _); (case s3 => exact Kd.C_alloc (HX.out.2.2.2.1) _); (case s4 => exact Kd.C_alloc (HX.out.2.2.2.2.2.1) _); (case s9 => exact Kd.C_alloc (HX.out.2.2.2.2.2.2.2) _); rintro e w5 ⟨rfl, hb⟩; have BK5 := As0.mk (bkb (heap_alloc_new wr (.cells #[.int .i64 x.f0, .int .i64 x.f1, .slice A2 x.f2.length c2, .slice A3 x.f3.length c3, .slice A4 x.f4.length c4, .int .i64 x.f5, .int .i64 x.f6, .int .i64 x.f7, .int .i64 x.f8, .slice A9 x.f9.length c9, .int .i64 x.f10, .bool x.f11] 68)) hb); have HB5 := As0.mk (pwt (bwa (Below.refl _ _) _) hb); clear hb; have j0 : w5.cell? ⟨wr.heap.size, 0, none⟩ = some (.int .i64 x.f0) := (bkc BK5.out 0).trans rfl; have j1 : w5.cell? ⟨wr.heap.size, 1, none⟩ = some (.int .i64 x.f1) := (bkc BK5.out 1).trans rfl; have j2 : w5.cell? ⟨wr.heap.size, 2, none⟩ = some (.slice A2 x.f2.length c2) := (bkc BK5.out 2).trans rfl; have j3 : w5.cell? ⟨wr.heap.size, 3, none⟩ = some (.slice A3 x.f3.length c3) := (bkc BK5.out 3).trans rfl; have j4 : w5.cell? ⟨wr.heap.size, 4, none⟩ = some (.slice A4 x.f4.length c4) := (bkc BK5.out 4).trans rfl; have j5 : w5.cell? ⟨wr.heap.size, 5, none⟩ = some (.int .i64 x.f5) := (bkc BK5.out 5).trans rfl; have j6 : w5.cell? ⟨wr.heap.size, 6, none⟩ = some (.int .i64 x.f6) := (bkc BK5.out 6).trans rfl; have j7 : w5.cell? ⟨wr.heap.size, 7, none⟩ = some (.int .i64 x.f7) := (bkc BK5.out 7).trans rfl; have j8 : w5.cell? ⟨wr.heap.size, 8, none⟩ = some (.int .i64 x.f8) := (bkc BK5.out 8).trans rfl; have j9 : w5.cell? ⟨wr.heap.size, 9, none⟩ = some (.slice A9 x.f9.length c9) := (bkc BK5.out 9).trans rfl; have j10 : w5.cell? ⟨wr.heap.size, 10, none⟩ = some (.int .i64 x.f10) := (bkc BK5.out 10).trans rfl; have j11 : w5.cell? ⟨wr.heap.size, 11, none⟩ = some (.bool x.f11) := (bkc BK5.out 11).trans rfl) | (go_at_call 54; (with_reducible refine (item_unused.calls 4 x.f0 x.f1 A2 c2 x.f2 A3 c3 x.f3 A4 c4 x.f4 x.f5 x.f6 x.f7 x.f8 A9 c9 x.f9 x.f10 x.f11 _ _ ?s2 HX.out.1 ?s3 HX.out.2.2.1 ?s4 HX.out.2.2.2.2.1 ?s9 HX.out.2.2.2.2.2.2.1 HUB.out).mono ?_); (case s2 => exact Kd.C_below HX.out.2.1 HB5.out); (case s3 => exact Kd.C_below HX.out.2.2.2.1 HB5.out); (case s4 => exact Kd.C_below HX.out.2.2.2.2.2.1 HB5.out); (case s9 => exact Kd.C_below HX.out.2.2.2.2.2.2.2 HB5.out); rintro e w6 ⟨rfl, hb⟩; have BK6 := As0.mk (bkb BK5.out hb); have HB6 := As0.mk (pwt HB5.out hb); clear hb; clear j0 j1 j2 j3 j4 j5 j6 j7 j8 j9 j10 j11; have j2 : w6.cell? ⟨wr.heap.size, 2, none⟩ = some (.slice A2 x.f2.length c2) := (bkc BK6.out 2).trans rfl))
       go_roundg kq1
       case measure => omega
       case rel => exact ⟨i + 1, congrArg _ hw.out.1, ⟨by have := HI.out; omega, by have := HI.out; omega⟩, ⟨by rw [hw.out.2]; exact HST.out⟩, ⟨bkb BKb.out HB6.out⟩, ⟨pwt HB.out HB6.out⟩⟩
def item_ready.f (l0 : List S68) (a1 : Int) : Option (Int × Int) := (item_Check.f l0).bind fun e => if e.1 = 0 then (if findI l0 a1 < 0 then some (0, 5) else some (findI l0 a1, 0)) else some (0, e.1)
set_option maxHeartbeats 16000000 in
set_option maxRecDepth 100000 in
theorem item_ready.calls (A0 : Option Addr) (c0 : Nat) (l0 : List S68) (a1 : Int) (r1 : Int) (r2 : Int) (w : World) (hr0 : Kd.C k68 w A0 l0.length l0) (hc0 : l0.length ≤ c0) (h : item_ready.f l0 a1 = some (r1, r2)) :
  Calls Tryz.prog 63 #[.slice A0 l0.length c0, .int .i64 a1] w fun e w' => e = .returned (.tuple #[.int .i64 r1, .int .i64 r2]) ∧ Below w.heap.size w w' := by
 obtain ⟨⟨e1, e2⟩, he, h⟩ := Option.bind_eq_some_iff.1 h
 have HR := As0.mk hr0
 have HC := As0.mk hc0
 have HE := As0.mk he
 clear hr0 hc0 he
 by_cases h0 : e1 = 0
 ·rw [if_pos h0] at h
  subst h0
  by_cases hf : findI l0 a1 < 0
  ·rw [if_pos hf] at h
   obtain ⟨rfl, rfl⟩ := Prod.mk.inj (Option.some.inj h)
   have df : decide (findI l0 a1 < 0) = true := decide_eq_true hf
   clear h hf
   go_enter Tryz.func63, Tryz.ntmps63
   go_wp2_with (first | (go_at_call 19; (with_reducible refine (item_Check.calls A0 c0 l0 0 e2 _ HR.out HC.out HE.out).mono ?_); rintro e w1 ⟨rfl, hb⟩; have HB := As0.mk hb; clear hb) | (go_at_call 55; (with_reducible refine (item_find.calls A0 c0 l0 a1 (findI l0 a1) _ (Kd.C_below HR.out HB.out) HC.out rfl).mono ?_); rintro e w2 ⟨rfl, hb⟩; have HB2 := As0.mk (pwt HB.out hb); clear hb))
   go_ret2
   exact ⟨rfl, HB2.out⟩
  ·rw [if_neg hf] at h
   obtain ⟨rfl, rfl⟩ := Prod.mk.inj (Option.some.inj h)
   have df : decide (findI l0 a1 < 0) = false := decide_eq_false hf
   clear h hf
   go_enter Tryz.func63, Tryz.ntmps63
   go_wp2_with (first | (go_at_call 19; (with_reducible refine (item_Check.calls A0 c0 l0 0 e2 _ HR.out HC.out HE.out).mono ?_); rintro e w1 ⟨rfl, hb⟩; have HB := As0.mk hb; clear hb) | (go_at_call 55; (with_reducible refine (item_find.calls A0 c0 l0 a1 (findI l0 a1) _ (Kd.C_below HR.out HB.out) HC.out rfl).mono ?_); rintro e w2 ⟨rfl, hb⟩; have HB2 := As0.mk (pwt HB.out hb); clear hb))
   go_ret2
   exact ⟨rfl, HB2.out⟩
 ·rw [if_neg h0] at h
  obtain ⟨rfl, rfl⟩ := Prod.mk.inj (Option.some.inj h)
  have d0 : decide (e1 = 0) = false := decide_eq_false h0
  have d1 : (e1 == 0) = false := by simpa using h0
  clear h h0
  go_enter Tryz.func63, Tryz.ntmps63
  go_wp2_with (first | (go_at_call 19; (with_reducible refine (item_Check.calls A0 c0 l0 e1 e2 _ HR.out HC.out HE.out).mono ?_); rintro e w1 ⟨rfl, hb⟩; have HB := As0.mk hb; clear hb))
  go_ret2
  exact ⟨rfl, HB.out⟩
set_option maxHeartbeats 8000000 in
set_option maxRecDepth 100000 in
theorem Index_int.calls (A0 : Option Addr) (c0 : Nat) (l0 : List Int) (a1 : Int) (w : World) (hr0 : Kd.C (Kd.int .i64) w A0 l0.length l0) :
  Calls Tryz.prog 158 #[.slice A0 l0.length c0, .int .i64 a1] w fun e w' => e = .returned (.int .i64 (idxOf (fun x => a1 == x) l0)) ∧ w' = w := by
 have HR0 := As0.mk hr0
 have hlen := As0.mk hr0.2.1
 clear hr0
 have HI : As0 (0 ≤ (0 : Int) ∧ (0 : Int) + (l0.length : Nat) = l0.length ∧ idxAux (fun x => a1 == x) (l0.drop (0 : Int).toNat) (0 : Int).toNat = idxOf (fun x => a1 == x) l0) := ⟨by omega, by omega, rfl⟩
 go_enter Tryz.func158, Tryz.ntmps158
 go_wp2
 go_loopg [8] l0.length (fun kq v8 w' => ∃ i : Int, v8 = .int .i64 i ∧ As0 (0 ≤ i ∧ i + kq = l0.length ∧ idxAux (fun x => a1 == x) (l0.drop i.toNat) i.toNat = idxOf (fun x => a1 == x) l0) ∧ w' = w)
 case atStart => exact ⟨0, rfl, HI, rfl⟩
 case round =>
  clear HI
  obtain ⟨i, rfl, HI, rfl⟩ := hrel
  cases gk with
  | zero =>
   have hge : decide (i < (l0.length : Int)) = false := by have := HI.out; simp; omega
   go_wp2
   go_ret
   exact ⟨by rw [← HI.out.2.2, idxOf_end _ l0 i.toNat (by have := HI.out; omega)]; rfl, rfl⟩
  | succ k1 =>
   have h0 : 0 ≤ i := by have := HI.out; omega
   have h1 : i < (l0.length : Int) := by have := HI.out; omega
   have hge : decide (i < (l0.length : Int)) = true := decide_eq_true h1
   have hg0 : decide (0 ≤ i) = true := decide_eq_true h0
   obtain ⟨ad, e0, hc⟩ := ReadsInt.at_ (Kd.reads_of_C (d := 0) HR0.out : ReadsInt _ .i64 A0 l0.length l0) i h0 h1
   cases e0
   have hx : As0 (l0[i.toNat]? = some (rd l0 i)) := ⟨by
    have hl : i.toNat < l0.length := by omega
    simp [rd, List.getElem?_eq_getElem hl, List.getD_eq_getElem?_getD]⟩
   generalize rd l0 i = x at *
   have hw : As0 (wrap64 (i + 1) = i + 1 ∧ (i + 1).toNat = i.toNat + 1) := ⟨by have := HI.out; have := hlen.out; unfold wrap64; omega, by omega⟩
   have hst := HI.out.2.2
   rw [idxOf_step _ l0 i.toNat x hx.out] at hst
   replace h0 := eq_true h0
   replace h1 := eq_true h1
   cases hpx : (a1 == x) with
   | true =>
    rw [hpx, if_pos rfl] at hst
    have HST := As0.mk hst
    clear hst
    have q1 : decide (a1 = x) = true := by simpa using hpx
    go_wp2
    go_ret
    exact ⟨by rw [← HST.out, Int.toNat_of_nonneg HI.out.1]; rfl, rfl⟩
   | false =>
    rw [hpx, if_neg (by decide)] at hst
    have HST := As0.mk hst
    clear hst
    have q1 : decide (a1 = x) = false := by simpa using hpx
    go_wp2
    go_roundg k1
    case measure => omega
    case rel => exact ⟨i + 1, congrArg _ hw.out.1, ⟨by have := HI.out; omega, by have := HI.out; omega, by rw [hw.out.2]; exact HST.out⟩, rfl⟩
set_option maxHeartbeats 8000000 in
set_option maxRecDepth 100000 in
theorem Contains_int.calls (A0 : Option Addr) (c0 : Nat) (l0 : List Int) (a1 : Int) (w : World) (hr0 : Kd.C (Kd.int .i64) w A0 l0.length l0) :
  Calls Tryz.prog 117 #[.slice A0 l0.length c0, .int .i64 a1] w fun e w' => e = .returned (.bool (l0.any fun x => a1 == x)) ∧ w' = w := by
 have HC := As0.mk (Index_int.calls A0 c0 l0 a1 w hr0)
 clear hr0
 rw [← idxOf_any]
 go_enter Tryz.func117, Tryz.ntmps117
 go_wp2_with (refine HC.out.mono ?_; rintro e w' ⟨rfl, rfl⟩)
 go_ret
 exact ⟨rfl, rfl⟩
theorem enters_116 : ∀ (args : Array Value) (W : World), (callFunc 116 args).run Tryz.prog W = .ok (.enter 116 args) W := enters_of Tryz.func116 (by kernel_rfl) rfl
def goO (l : List S68) (go : Int → List Int → Option (List Int)) : List Int → List Int → Option (List Int)
 | [], o => some o
 | id :: ids, o => (go (findI l id) o).bind fun o1 => goO l go ids o1
def walkO (l : List S68) : Nat → Int → List Int → Option (List Int)
 | 0, _, _ => none
 | f + 1, k, o => if (o.any fun x => k == x) = true then some o else if 0 ≤ k ∧ k < (l.length : Int) then (goO l (walkO l f) (rd_T68 l k).f3 o).bind fun o1 => if o1.length < 1000000 then some (o1 ++ [k]) else none else none
theorem goO_drop (l : List S68) (go : Int → List Int → Option (List Int)) (ids : List Int) (j : Nat) (id : Int) (o : List Int) (h : ids[j]? = some id) :
  goO l go (ids.drop j) o = (go (findI l id) o).bind fun o1 => goO l go (ids.drop (j + 1)) o1 := by
 obtain ⟨hl, he⟩ := List.getElem?_eq_some_iff.1 h
 rw [List.drop_eq_getElem_cons hl, he]
 rfl
structure OrderW (w0 w : World) (g1 g2 g3 : Nat) (A0 : Option Addr) (c0 : Nat) (l : List S68) (v : Value) (o : List Int) : Prop where
 b1 : w.heap[g1]? = some (.cells #[v] 39 (0, 0))
 b2 : w.heap[g2]? = some (.cells #[.slice A0 l.length c0] 35 (0, 0))
 b3 : w.heap[g3]? = some (.cells #[.func (.func 116) #[] #[.pointer (some ⟨g1, 0, none⟩), .pointer (some ⟨g2, 0, none⟩), .pointer (some ⟨g3, 0, none⟩)]] 153 (0, 0))
 row : (Kd.int .i64).R 3 w w0.heap.size (fun _ => True) v o
 ge : w0.heap.size ≤ g1
 below : Below w0.heap.size w0 w
theorem OrderW.keep {w0 w w1 : World} {g1 g2 g3 : Nat} {A0 : Option Addr} {c0 : Nat} {l : List S68} {v : Value} {o : List Int} (h : OrderW w0 w g1 g2 g3 A0 c0 l v o) (hb : Below w.heap.size w w1) : OrderW w0 w1 g1 g2 g3 A0 c0 l v o :=
 ⟨bkb h.b1 hb, bkb h.b2 hb, bkb h.b3 hb, Kd.R_below h.row hb, h.ge, pwt h.below hb⟩
theorem OrderW.lay {w0 w w1 : World} {g1 g2 g3 : Nat} {A0 : Option Addr} {c0 : Nat} {l : List S68} {v v1 : Value} {o o1 : List Int} (h : OrderW w0 w g1 g2 g3 A0 c0 l v o) (hg : w.grownBy w1 v.ownBlock) (hr : (Kd.int .i64).R 3 w1 w0.heap.size (fun _ => True) v1 o1) :
  OrderW w0 (w1.setCell ⟨g1, 0, none⟩ v1) g1 g2 g3 A0 c0 l v1 o1 ∧ w1.heap[g1]? = some (.cells #[v] 39 (0, 0)) := by
 have k : ∀ {g t : Nat} {cells : Array Value}, w.heap[g]? = some (.cells cells t (0, 0)) → 3 ≠ t → w1.heap[g]? = some (.cells cells t (0, 0)) := fun hb ht => blk_grown hb hg (Kd.R_ne h.row hb ht)
 have c1 := k h.b1 (by decide)
 have c2 := k h.b2 (by decide)
 have c3 := k h.b3 (by decide)
 refine ⟨⟨blk_put c1 0 v1 rfl, bkf c2 (ne_types c2 c1 (by decide)) _, bkf c3 (ne_types c3 c1 (by decide)) _, ?_, h.ge, ?_⟩, c1⟩
 ·refine Kd.R_mono (Kd.R_move (w1 := w1.setCell ⟨g1, 0, none⟩ v1) (Kd.R_bound hr) (fun q hq => ?_)) (fun _ _ => trivial)
  obtain ⟨_, _, _, e, he, cells, hc⟩ := hq
  refine Below.heap_setCell w1 _ v1 q (fun hqg => ?_)
  have hqg : q = g1 := hqg
  simp [Kd.int, Kd.scalar] at he
  subst he
  exact ne_types hc c1 (by decide) hqg
 ·exact bws (h.below.grown hg h.below.size (Kd.R_base h.row)) h.ge
def order_walk.T4 : Bool × List (List Nat × List Nat) := (true, [([], []), ([], []), ([], []), ([1, 2], [1, 2]), ([0, 3, 3], [0, 3])])
def order_walk.B4 : List Nat := [0, 0, 0, 6, 15]
theorem order_walk.tab4 : rtab .any (opsOf Tryz.f116 4) = order_walk.T4 := by kernel_rfl
theorem order_walk.bits4 : waitsOk order_walk.T4.2 order_walk.B4 = true := by kernel_rfl
set_option maxHeartbeats 16000000 in
set_option maxRecDepth 100000 in
theorem order_any (l : List S68) (w0 : World) (A0 : Option Addr) (c0 : Nat) (hr0 : Kd.C k68 w0 A0 l.length l) (hc0 : l.length ≤ c0) (f : Nat) : ∀ (k : Int) (vo : Value) (o r : List Int) (w : World) (g1 g2 g3 : Nat),
  OrderW w0 w g1 g2 g3 A0 c0 l vo o → walkO l f k o = some r →
  Calls Tryz.prog 116 #[.int .i64 k, .pointer (some ⟨g1, 0, none⟩), .pointer (some ⟨g2, 0, none⟩), .pointer (some ⟨g3, 0, none⟩)] w
   fun e w' => e = .returned (.tuple #[]) ∧ ∃ v', OrderW w0 w' g1 g2 g3 A0 c0 l v' r := by
 induction f with
 | zero => intro k vo o r w g1 g2 g3 _ h; cases h
 | succ f ih =>
  intro k vo o r w g1 g2 g3 hL h
  simp only [walkO] at h
  obtain ⟨Ao, co, rfl, hco, hro⟩ := Kd.R_reads hL.row
  have HL := As0.mk hL
  have HR := As0.mk hr0
  have IH := As0.mk ih
  have HC0 := As0.mk hc0
  have HRO := As0.mk hro
  clear ih hr0 hL hc0 hro hco
  have k1 : w.cell? ⟨g1, 0, none⟩ = some (.slice Ao o.length co) := (bkc HL.out.b1 0).trans rfl
  have k2 : w.cell? ⟨g2, 0, none⟩ = some (.slice A0 l.length c0) := (bkc HL.out.b2 0).trans rfl
  cases ha : (o.any fun x => k == x) with
  | true =>
   rw [if_pos ha] at h
   obtain rfl := Option.some.inj h
   have ANY := As0.mk ha
   clear ha h
   go_enter Tryz.func116, Tryz.ntmps116
   go_wp2_with (go_at_call 117; (with_reducible refine (Contains_int.calls Ao co o k _ HRO.out).mono ?_); rintro e w' ⟨rfl, rfl⟩; rw [ANY.out])
   first | go_end0 | ((try simp only [Exit.inBlock, Exit.then]); refine bodyPost_ret (results_none rfl _ _ _) rfl ?_)
   exact ⟨rfl, _, HL.out⟩
  | false =>
   rw [if_neg (by rw [ha]; decide)] at h
   have ANY := As0.mk ha
   clear ha
   split at h
   case isFalse => cases h
   case isTrue hk =>
   obtain ⟨hk0, hk1⟩ := hk
   obtain ⟨oz, hoz, h⟩ := Option.bind_eq_some_iff.1 h
   split at h
   case isFalse => cases h
   case isTrue hsz =>
   obtain rfl := Option.some.inj h
   clear h
   have HSZ := As0.mk hsz
   clear hsz
   obtain ⟨ad, A2, c2, A3, c3, A4, c4, A9, c9, e0, _, _, _, hx3, _, _, _, _, _, _, _, _, _, _, hl3, hi3, _⟩ := at_T68 HR.out k hk0 hk1
   cases e0
   replace hx3 := (HL.out.below.cell (World.block_lt_of_cell? w0 _ hx3)).trans hx3
   have HX := As0.mk hi3
   clear hl3 hi3
   have H := As0.mk hoz
   clear hoz
   generalize (rd_T68 l k).f3 = ids at *
   have hk0b : decide (0 ≤ k) = true := decide_eq_true hk0
   have hk1b : decide (k < (l.length : Int)) = true := decide_eq_true hk1
   have hen := enters_116
   replace hk0 := eq_true hk0
   replace hk1 := eq_true hk1
   go_enter Tryz.func116, Tryz.ntmps116
   go_wp2_with (go_at_call 117; (with_reducible refine (Contains_int.calls Ao co o k _ HRO.out).mono ?_); rintro e w' ⟨rfl, rfl⟩; rw [ANY.out])
   have HI : As0 (0 ≤ (0 : Int) ∧ (0 : Int) + (ids.length : Nat) = ids.length ∧ goO l (walkO l f) (ids.drop (0 : Int).toNat) o = some oz) := ⟨by omega, by omega, H.out⟩
   have hlen := As0.mk HX.out.2.1
   clear k1 k2 hx3
   go_loopg [16] ids.length (fun kq v16 w' => ∃ (j : Int) (vo : Value) (ob : List Int), v16 = .int .i64 j ∧ As0 (0 ≤ j ∧ j + kq = ids.length ∧ goO l (walkO l f) (ids.drop j.toNat) ob = some oz) ∧ As0 (OrderW w0 w' g1 g2 g3 (some ad) c0 l vo ob))
   case atStart => exact ⟨0, _, o, rfl, HI, HL⟩
   case round =>
    clear HI HL H
    obtain ⟨j, vo, ob, rfl, HI, HL⟩ := hrel
    cases gk with
    | zero =>
     have hge : decide (j < (ids.length : Int)) = false := by have := HI.out; simp; omega
     have hr : oz = ob := by
      have := HI.out.2.2
      rw [List.drop_eq_nil_of_le (by have := HI.out; omega)] at this
      exact (Option.some.inj this).symm
     subst hr
     obtain ⟨Av, cv, rfl⟩ := Kd.R_slice HL.out.row
     have k1 : wr.cell? ⟨g1, 0, none⟩ = some (.slice Av oz.length cv) := (bkc HL.out.b1 0).trans rfl
     go_wp2_with (at_builtin; refine Kd.R_append (Kd.int .i64) (w0 := w0) w0.heap.size rfl (.tmp 26) (.tmp 28) 39 3 (.int .i64 0) 8 rfl Tryz.underlying39 info3 rfl (by decide) (by decide) (.slice Av oz.length cv) oz k [.int .i64 k] (fun _ => True) (fun _ => False) rfl rfl rfl (fun _ h => h.elim) (fun _ _ => trivial) HL.out.row HL.out.below HL.out.below.size (by have := HSZ.out; omega) ?_; intro v1 w1 hv1 hb1 hg1 hat; have HL9 := HL.out.lay hg1 hv1; have k9 : w1.cell? ⟨g1, 0, none⟩ = some (.slice Av oz.length cv) := (bkc HL9.2 0).trans rfl; have f9 := bkz HL9.2 0; have HL8 := As0.mk HL9.1; obtain ⟨A9, c9, rfl⟩ := Kd.R_slice hv1; clear HL9 hv1 hb1 hg1 hat k1)
     first | go_end0 | ((try simp only [Exit.inBlock, Exit.then]); refine bodyPost_ret (results_none rfl _ _ _) rfl ?_)
     exact ⟨rfl, .slice A9 (oz.length + 1) c9, by have h8 := HL8.out; rw [show (oz ++ [k]).length = oz.length + 1 by simp] at h8; exact h8⟩
    | succ kq1 =>
     have h0 : 0 ≤ j := by have := HI.out; omega
     have h1 : j < (ids.length : Int) := by have := HI.out; omega
     have hge : decide (j < (ids.length : Int)) = true := decide_eq_true h1
     have hg0 : decide (0 ≤ j) = true := decide_eq_true h0
     obtain ⟨ad3, e3, hc⟩ := ReadsInt.at_ (Kd.reads_of_C (d := 0) HX.out : ReadsInt w0 .i64 A3 ids.length ids) j h0 h1
     cases e3
     replace hc := (HL.out.below.cell (World.block_lt_of_cell? w0 _ hc)).trans hc
     have hx : ids[j.toNat]? = some (rd ids j) := by
      have hl : j.toNat < ids.length := by omega
      simp [rd, List.getElem?_eq_getElem hl, List.getD_eq_getElem?_getD]
     have hst := HI.out.2.2
     rw [goO_drop l _ ids j.toNat (rd ids j) ob hx] at hst
     clear hx
     generalize rd ids j = id at *
     obtain ⟨o1, hw1, hst⟩ := Option.bind_eq_some_iff.1 hst
     have W1 := As0.mk hw1
     have ST := As0.mk hst
     clear hw1 hst
     have hw : As0 (wrap64 (j + 1) = j + 1 ∧ (j + 1).toNat = j.toNat + 1) := ⟨by have := HI.out; have := hlen.out; unfold wrap64; omega, by omega⟩
     replace h0 := eq_true h0
     replace h1 := eq_true h1
     go_wp2
     have HLd : As0 (OrderW w0 wr.drew g1 g2 g3 (some ad) c0 l vo ob) := ⟨HL.out.keep (bwd (Below.refl _ _))⟩
     refine start_ (n := 5) (S := fun w' => w'.cell? ⟨g2, 0, none⟩ = some (.slice (some ad) l.length c0) ∧ w'.cell? ⟨g3, 0, none⟩ = some (.func (.func 116) #[] #[.pointer (some ⟨g1, 0, none⟩), .pointer (some ⟨g2, 0, none⟩), .pointer (some ⟨g3, 0, none⟩)])) (ds := []) #[false, false, false, false, false] (by kernel_rfl) rfl rfl ⟨(bkc HLd.out.b2 0).trans rfl, (bkc HLd.out.b3 0).trans rfl⟩ (fun hHeld => ?_); refine with_tabW order_walk.tab4 order_walk.bits4 (fun HT_ HW_ => ?_)
     clear HL
     have HL := HLd
     clear HLd
     generalize wr.drew = wd at HL hHeld ⊢
     refine pure_ (i := 2) (N := some 22) (v := ?_) (a' := ?_) #[false, false, true, false, false] rfl rfl (any_of HT_.out (by kernel_rfl)) (fun _ _ _ h => h) (Or.inl ⟨by rfl, ?_⟩) ?_ ?_
     rotate_left
     ·intro w'
      go_simp
      with_reducible rfl
     rotate_left
     ·simp only [Act.put, List.setIfInBounds_toArray, List.set_cons_zero, List.set_cons_succ, i64_w, i32_w]
      rfl
     refine take_ (i := 0) (N := some 20) (v := ?_) (a' := ?_) #[true, false, true, false, false] rfl rfl (take_ofW HT_.out HW_.out (by kernel_rfl)) (fun _ _ _ h => h) (Or.inl ⟨by rfl, ?_⟩) hHeld ?_ ?_
     rotate_left
     ·rintro w' ⟨s0, s1⟩
      go_simp
      with_reducible rfl
     rotate_left
     ·simp only [Act.put, List.setIfInBounds_toArray, List.set_cons_zero, List.set_cons_succ, i64_w, i32_w]
      rfl
     refine take_ (i := 1) (N := some 21) (v := ?_) (a' := ?_) #[true, true, true, false, false] rfl rfl (take_ofW HT_.out HW_.out (by kernel_rfl)) (fun _ _ _ h => h) (Or.inl ⟨by rfl, ?_⟩) hHeld ?_ ?_
     rotate_left
     ·rintro w' ⟨s0, s1⟩
      go_simp
      with_reducible rfl
     rotate_left
     ·simp only [Act.put, List.setIfInBounds_toArray, List.set_cons_zero, List.set_cons_succ, i64_w, i32_w]
      rfl
     refine one_ (i := 3) (N := some 23) #[true, true, true, true, false] rfl rfl (one_of HT_.out (by kernel_rfl)) (by decide) (fun K hK => ?_)
     refine goes_ Tryz.func55 (by kernel_rfl) rfl #[.slice (some ad) l.length c0, .int .i64 id] (by rfl) rfl rfl (by (try simp only [List.map_toArray, List.map_cons, List.map_nil]); first | done | rfl) ?_
     with_reducible refine (item_find.calls (some ad) c0 l id (findI l id) _ (Kd.C_below HR.out HL.out.below) HC0.out rfl).mono ?_
     rintro e w5 ⟨rfl, hb5⟩
     refine ⟨_, rfl, ?_⟩
     have HL5 := As0.mk (HL.out.keep hb5)
     clear hb5
     refine hK.out _ _ ⟨(bkc HL5.out.b2 0).trans rfl, (bkc HL5.out.b3 0).trans rfl⟩ (fun hHeld => ?_)
     clear hK K
     refine norm_ (a' := ?_) ?_ ?_
     rotate_left
     ·show Act.put _ (some 23) _ = _
      simp only [Act.put, List.setIfInBounds_toArray, List.set_cons_zero, List.set_cons_succ, i64_w, i32_w]
      rfl
     refine one_ (i := 4) (N := some 24) #[true, true, true, true, true] rfl rfl (one_of HT_.out (by kernel_rfl)) (by decide) (fun K hK => ?_)
     refine call_ 116 #[.int .i64 (findI l id), .pointer (some ⟨g1, 0, none⟩), .pointer (some ⟨g2, 0, none⟩), .pointer (some ⟨g3, 0, none⟩)] (by rfl) rfl (by go_simp) ?_
     with_reducible refine (IH.out (findI l id) vo ob o1 _ g1 g2 g3 HL5.out W1.out).mono ?_
     rintro e w6 ⟨rfl, v6, hL6⟩
     refine ⟨_, rfl, ?_⟩
     have HL6 := As0.mk hL6
     clear hL6
     refine hK.out _ _ ⟨(bkc HL6.out.b2 0).trans rfl, (bkc HL6.out.b3 0).trans rfl⟩ (fun hHeld => ?_)
     clear hK K
     refine norm_ (a' := ?_) ?_ ?_
     rotate_left
     ·show Act.put _ (some 24) _ = _
      simp only [Act.put, List.setIfInBounds_toArray, List.set_cons_zero, List.set_cons_succ, i64_w, i32_w]
      rfl
     refine done_ (done_of HT_.out (by kernel_rfl)) ?_
     go_wp2
     go_roundg kq1
     case measure => omega
     case rel => exact ⟨j + 1, v6, o1, congrArg _ hw.out.1, ⟨by have := HI.out; omega, by have := HI.out; omega, by rw [hw.out.2]; exact ST.out⟩, HL6⟩
def item_order.f (l0 : List S68) (a1 : Int) : Option (List Int) := walkO l0 (l0.length + 1) a1 []
set_option maxHeartbeats 16000000 in
set_option maxRecDepth 100000 in
theorem item_order.calls (A0 : Option Addr) (c0 : Nat) (l0 : List S68) (a1 : Int) (r : List Int) (w : World) (hr0 : Kd.C k68 w A0 l0.length l0) (hc0 : l0.length ≤ c0) (h : item_order.f l0 a1 = some r) :
  Calls Tryz.prog 64 #[.slice A0 l0.length c0, .int .i64 a1] w fun e w' => ∃ v0_ : Value, e = .returned (v0_) ∧ Kd.R (Kd.int .i64) 3 w' w.heap.size (fun _ => True) v0_ r ∧ Below w.heap.size w w' := by
 have HR := As0.mk hr0
 have HC0 := As0.mk hc0
 have HW := As0.mk h
 unfold item_order.f at HW
 clear h hr0 hc0
 have hmf := makeFunc_run
 have hen := enters_116
 go_enter Tryz.func64, Tryz.ntmps64
 go_wp2_with (go_at_call 116; (with_reducible refine (order_any l0 w A0 c0 HR.out HC0.out _ a1 (.slice none 0 0) [] r _ _ _ _ ?hL HW.out).mono ?_); (case hL => exact ⟨by (have := bka (heap_alloc_new (w.alloc (.cells #[.slice A0 l0.length c0] 35)) (.cells #[.slice none 0 0] 39)) (.cells #[.func (.func 116) #[] #[.pointer (some ⟨w.heap.size + 1, 0, none⟩), .pointer (some ⟨w.heap.size, 0, none⟩), .pointer (some ⟨w.heap.size + 2, 0, none⟩)]] 153); simpa [World.size_alloc] using this), bka (bka (heap_alloc_new w _) _) _, by (have := heap_alloc_new ((w.alloc (.cells #[.slice A0 l0.length c0] 35)).alloc (.cells #[.slice none 0 0] 39)) (.cells #[.func (.func 116) #[] #[.pointer (some ⟨w.heap.size + 1, 0, none⟩), .pointer (some ⟨w.heap.size, 0, none⟩), .pointer (some ⟨w.heap.size + 2, 0, none⟩)]] 153); simpa [World.size_alloc] using this), Kd.R_nil _ _ _ _ _, by omega, bwa (bwa (bwa (Below.refl _ _) _) _) _⟩); rintro e w' ⟨rfl, v', hL⟩; have HL := As0.mk hL; obtain ⟨Av, cv, rfl⟩ := Kd.R_slice hL.row; clear hL; have k9 : w'.cell? ⟨w.heap.size + 1, 0, none⟩ = some (.slice Av r.length cv) := (bkc HL.out.b1 0).trans rfl)
 go_ret
 exact ⟨_, rfl, HL.out.row, HL.out.below⟩
set_option maxHeartbeats 16000000 in
set_option maxRecDepth 100000 in
theorem made_over (x : S68) (hx : x.f1 = 2) (A2 : Option Addr) (c2 : Nat) (A3 : Option Addr) (c3 : Nat) (A4 : Option Addr) (c4 : Nat) (A9 : Option Addr) (c9 : Nat) (w : World) :
  Calls Tryz.prog 79 #[.agg #[.int .i64 x.f0, .int .i64 x.f1, .slice A2 x.f2.length c2, .slice A3 x.f3.length c3, .slice A4 x.f4.length c4, .int .i64 x.f5, .int .i64 x.f6, .int .i64 x.f7, .int .i64 x.f8, .slice A9 x.f9.length c9, .int .i64 x.f10, .bool x.f11]] w fun e w' => e = .returned (.iface 157 (.agg #[.int .i64 x.f0, .int .i64 x.f1, .slice A2 x.f2.length c2, .slice A3 x.f3.length c3, .slice A4 x.f4.length c4, .int .i64 x.f5, .int .i64 x.f6, .int .i64 x.f7, .int .i64 x.f8, .slice A9 x.f9.length c9, .int .i64 x.f10, .bool x.f11])) ∧ Below w.heap.size w w' := by
 have hu68 := Tryz.underlying68
 have q0 : (x.f1 == 0) = false := by rw [hx]; rfl
 have q1 : (x.f1 == 1) = false := by rw [hx]; rfl
 have q2 : (x.f1 == 2) = true := by rw [hx]; rfl
 clear hx
 go_enter Tryz.func79, Tryz.ntmps79
 go_wp2_with (first | ((with_reducible refine gdt (N := 1) rfl ?_); refine bxe ?hg (N := 1) ?hd (cs := #[.int .i64 x.f0, .int .i64 x.f1, .slice A2 x.f2.length c2, .slice A3 x.f3.length c3, .slice A4 x.f4.length c4, .int .i64 x.f5, .int .i64 x.f6, .int .i64 x.f7, .int .i64 x.f8, .slice A9 x.f9.length c9, .int .i64 x.f10, .bool x.f11]) (t := 68) ?hr ?_; (case hd => rfl); (case hg => rfl); (case hr => first | (go_simp; done) | (go_simp; rfl)); intro g1 hgg1 w2 hboxg1 hbg1; have BKg1 := As0.mk hboxg1; have HB2 := As0.mk hbg1; have k0 : w2.cell? ⟨g1, 0, none⟩ = some (.int .i64 x.f0) := (bkc BKg1.out 0).trans rfl; have k1 : w2.cell? ⟨g1, 1, none⟩ = some (.int .i64 x.f1) := (bkc BKg1.out 1).trans rfl; have k2 : w2.cell? ⟨g1, 2, none⟩ = some (.slice A2 x.f2.length c2) := (bkc BKg1.out 2).trans rfl; have k3 : w2.cell? ⟨g1, 3, none⟩ = some (.slice A3 x.f3.length c3) := (bkc BKg1.out 3).trans rfl; have k4 : w2.cell? ⟨g1, 4, none⟩ = some (.slice A4 x.f4.length c4) := (bkc BKg1.out 4).trans rfl; have k5 : w2.cell? ⟨g1, 5, none⟩ = some (.int .i64 x.f5) := (bkc BKg1.out 5).trans rfl; have k6 : w2.cell? ⟨g1, 6, none⟩ = some (.int .i64 x.f6) := (bkc BKg1.out 6).trans rfl; have k7 : w2.cell? ⟨g1, 7, none⟩ = some (.int .i64 x.f7) := (bkc BKg1.out 7).trans rfl; have k8 : w2.cell? ⟨g1, 8, none⟩ = some (.int .i64 x.f8) := (bkc BKg1.out 8).trans rfl; have k9 : w2.cell? ⟨g1, 9, none⟩ = some (.slice A9 x.f9.length c9) := (bkc BKg1.out 9).trans rfl; have k10 : w2.cell? ⟨g1, 10, none⟩ = some (.int .i64 x.f10) := (bkc BKg1.out 10).trans rfl; have k11 : w2.cell? ⟨g1, 11, none⟩ = some (.bool x.f11) := (bkc BKg1.out 11).trans rfl; clear hboxg1 hbg1 hgg1))
 go_ret
 exact ⟨rfl, HB2.out⟩
def bits_Mul64.f (a0 : Int) (a1 : Int) : Option (Int × Int) := some (IntKind.u64.wrap ((IntKind.u64.wrap ((IntKind.u64.wrap ((a0 / 4294967296) * (a1 / 4294967296))) + ((IntKind.u64.wrap ((IntKind.u64.wrap ((a0 / 4294967296) * (Go.bits .and .u64 a1 4294967295))) + ((IntKind.u64.wrap ((Go.bits .and .u64 a0 4294967295) * (Go.bits .and .u64 a1 4294967295))) / 4294967296))) / 4294967296))) + ((IntKind.u64.wrap ((Go.bits .and .u64 (IntKind.u64.wrap ((IntKind.u64.wrap ((a0 / 4294967296) * (Go.bits .and .u64 a1 4294967295))) + ((IntKind.u64.wrap ((Go.bits .and .u64 a0 4294967295) * (Go.bits .and .u64 a1 4294967295))) / 4294967296))) 4294967295) + (IntKind.u64.wrap ((Go.bits .and .u64 a0 4294967295) * (a1 / 4294967296))))) / 4294967296)), IntKind.u64.wrap (a0 * a1))
set_option maxHeartbeats 8000000 in
set_option maxRecDepth 100000 in
theorem bits_Mul64.calls (a0 : Int) (a1 : Int) (r1 : Int) (r2 : Int) (w : World) (h : bits_Mul64.f a0 a1 = some (r1, r2)) :
  Calls Tryz.prog 295 #[.int .u64 a0, .int .u64 a1] w fun e w' => e = .returned (.tuple #[.int .u64 r1, .int .u64 r2]) ∧ Drawn0 w w' := by
 have H : (some (IntKind.u64.wrap ((IntKind.u64.wrap ((IntKind.u64.wrap ((a0 / 4294967296) * (a1 / 4294967296))) + ((IntKind.u64.wrap ((IntKind.u64.wrap ((a0 / 4294967296) * (Go.bits .and .u64 a1 4294967295))) + ((IntKind.u64.wrap ((Go.bits .and .u64 a0 4294967295) * (Go.bits .and .u64 a1 4294967295))) / 4294967296))) / 4294967296))) + ((IntKind.u64.wrap ((Go.bits .and .u64 (IntKind.u64.wrap ((IntKind.u64.wrap ((a0 / 4294967296) * (Go.bits .and .u64 a1 4294967295))) + ((IntKind.u64.wrap ((Go.bits .and .u64 a0 4294967295) * (Go.bits .and .u64 a1 4294967295))) / 4294967296))) 4294967295) + (IntKind.u64.wrap ((Go.bits .and .u64 a0 4294967295) * (a1 / 4294967296))))) / 4294967296)), IntKind.u64.wrap (a0 * a1))) = some (r1, r2) := h
 clear h
 simp only [Option.some.injEq, Prod.mk.injEq] at H
 obtain ⟨rfl, rfl⟩ := H
 go_enter Tryz.func295, Tryz.ntmps295
 go_wp2
 go_ret2
 exact ⟨by first | rfl | (simp; done) | (simp [*]; done), by repeat (first | exact Drawn0.refl _ | apply Drawn0.step)⟩
def bits_Mul.f (a0 : Int) (a1 : Int) : Option (Int × Int) := (bits_Mul64.f a0 a1).bind fun bt840 => (some (bt840.1, bt840.2))
set_option maxHeartbeats 8000000 in
set_option maxRecDepth 100000 in
theorem bits_Mul.calls (a0 : Int) (a1 : Int) (r1 : Int) (r2 : Int) (w : World) (h : bits_Mul.f a0 a1 = some (r1, r2)) :
  Calls Tryz.prog 275 #[.int .u64 a0, .int .u64 a1] w fun e w' => e = .returned (.tuple #[.int .u64 r1, .int .u64 r2]) ∧ Drawn0 w w' := by
 have H : ((bits_Mul64.f a0 a1).bind fun bt840 => (some (bt840.1, bt840.2))) = some (r1, r2) := h
 clear h
 replace H := Option.bind_eq_some_iff.mp H
 obtain ⟨⟨t840, t841⟩, A30, H⟩ := H
 replace H : (some (t840, t841)) = some (r1, r2) := H
 have A3 := As0.mk A30
 clear A30
 simp only [Option.some.injEq, Prod.mk.injEq] at H
 obtain ⟨rfl, rfl⟩ := H
 go_enter Tryz.func275, Tryz.ntmps275
 go_wp2_with (first | ((with_reducible refine gate_callee (f := 295) rfl ?_); refine goesL_ (some 25) rfl rfl Tryz.func295 (by kernel_rfl) rfl #[.int .u64 a0, .int .u64 a1] rfl (by (try simp only [List.map_toArray, List.map_cons, List.map_nil]); first | done | rfl | (simp only [List.length_drop, List.length_take]; rfl)) ?_; (with_reducible refine (bits_Mul64.calls a0 a1 t840 t841 _ A3.out).mono ?_); rintro e w' ⟨rfl, ⟨nd, rfl⟩⟩; refine ⟨_, rfl, ?_⟩))
 go_ret2
 exact ⟨by first | rfl | (simp; done) | (simp [*]; done), by repeat (first | exact Drawn0.refl _ | apply Drawn0.step)⟩
theorem mul_one_u64 (n : Nat) (hn : n ≤ 1000000) : bits_Mul.f 1 (n : Int) = some (0, (n : Int)) := by
 have h1 : Go.bits .and .u64 1 4294967295 = 1 := by decide +kernel
 have h2 : Go.bits .and .u64 (n : Int) 4294967295 = ((n &&& 4294967295 : Nat) : Int) := bits_and_u64_nat n 4294967295 (by omega) (by decide)
 have h3 : n &&& 4294967295 ≤ n := Nat.and_le_left
 obtain ⟨m, hm⟩ : ∃ m, m = n &&& 4294967295 := ⟨_, rfl⟩
 rw [← hm] at h2 h3
 have w : ∀ z : Int, 0 ≤ z → z ≤ 10000000 → IntKind.u64.wrap z = z := fun z h0 h1 => by
  simp [IntKind.wrap, IntKind.bits, IntKind.signed]
  omega
 simp only [bits_Mul.f, bits_Mul64.f, h1, h2, Option.bind_some]
 have e1 : (1 : Int) / 4294967296 = 0 := by decide
 have e2 : (n : Int) / 4294967296 = 0 := by omega
 have e3 : (m : Int) / 4294967296 = 0 := by omega
 have w0 : IntKind.u64.wrap 0 = 0 := by decide
 have h4 : Go.bits .and .u64 0 4294967295 = 0 := by decide +kernel
 simp only [e1, e2, Int.zero_mul, Int.mul_zero, Int.one_mul, w0, Int.zero_add, w (m : Int) (by omega) (by omega), e3, h4, w (n : Int) (by omega) (by omega)]
 rfl
theorem rep_set (v z : Int) (m N : Nat) (h : m < N) : (List.replicate m v ++ List.replicate (N - m) z).set m v = List.replicate (m + 1) v ++ List.replicate (N - (m + 1)) z := by
 rw [List.set_append, List.length_replicate, if_neg (by omega), Nat.sub_self, show N - m = (N - (m + 1)) + 1 by omega, List.replicate_succ, List.set_cons_zero, List.replicate_succ']
 simp
theorem rep_fill (base : Nat) (ok : Nat → Prop) (g n cap : Nat) (v : Int) (N : Nat) : ∀ (k m : Nat) (w : World), m + k ≤ N → (Kd.int .i64).R 3 w base ok (.slice (some ⟨g, 0, none⟩) n cap) (List.replicate m v ++ List.replicate (N - m) 0) →
  (Kd.int .i64).R 3 (w.setCells g m (List.replicate k (.int .i64 v))) base ok (.slice (some ⟨g, 0, none⟩) n cap) (List.replicate (m + k) v ++ List.replicate (N - (m + k)) 0) ∧ w.grownBy (w.setCells g m (List.replicate k (.int .i64 v))) (some g)
 | 0, m, w, _, h => ⟨h, grown_refl _ _⟩
 | k + 1, m, w, hk, h => by
  have hp := Kd.R_putg h (m : Int) v
  rw [Int.toNat_natCast, rep_set v 0 m N (by omega)] at hp
  have h2 := rep_fill base ok g n cap v N k (m + 1) _ (by omega) hp.1
  rw [show m + 1 + k = m + (k + 1) by omega] at h2
  refine ⟨h2.1, ⟨h2.2.os.trans hp.2.os, h2.2.tape.trans hp.2.tape, h2.2.output.trans hp.2.output, Nat.le_trans hp.2.size h2.2.size, fun q hq hne => (h2.2.block q (Nat.lt_of_lt_of_le hq hp.2.size) hne).trans (hp.2.block q hq hne)⟩⟩
def slices_Repeat_int_int.f (l0 : List Int) (a1 : Int) : Option (List Int) := match l0 with
 | [v] => if 1 ≤ a1 ∧ a1 ≤ 1000000 then some (List.replicate a1.toNat v) else none
 | _ => none
def rep_walk.T9 : Bool × List (List Nat × List Nat) := (true, [([], []), ([], []), ([], []), ([1, 2], [1, 2]), ([], []), ([], []), ([4, 5], [4, 5]), ([3, 6], [3, 6]), ([0, 7], [0, 7]), ([8, 7, 0, 1, 2, 3, 4, 5, 6, 7, 8], [0, 2, 5, 8])])
def rep_walk.B9 : List Nat := [0, 0, 0, 6, 0, 0, 48, 126, 255, 511]
theorem rep_walk.tab9 : rtab .any (opsOf Tryz.f260 9) = rep_walk.T9 := by kernel_rfl
theorem rep_walk.bits9 : waitsOk rep_walk.T9.2 rep_walk.B9 = true := by kernel_rfl
set_option maxHeartbeats 16000000 in
set_option maxRecDepth 100000 in
theorem slices_Repeat_int_int.calls (A0 : Option Addr) (c0 : Nat) (l0 : List Int) (a1 : Int) (r : List Int) (w : World) (hr0 : Kd.C (Kd.int .i64) w A0 l0.length l0) (hc0 : l0.length ≤ c0) (h : slices_Repeat_int_int.f l0 a1 = some r) :
  Calls Tryz.prog 260 #[.slice A0 l0.length c0, .int .i64 a1] w fun e w' => ∃ v0_ : Value, e = .returned (v0_) ∧ Kd.R (Kd.int .i64) 3 w' w.heap.size (fun _ => True) v0_ r ∧ Below w.heap.size w w' := by
 unfold slices_Repeat_int_int.f at h
 split at h
 case h_2 => cases h
 case h_1 v =>
 split at h
 case isFalse => cases h
 case isTrue hk =>
 obtain rfl := Option.some.inj h
 obtain ⟨N, rfl⟩ : ∃ N : Nat, a1 = (N : Int) := ⟨a1.toNat, by omega⟩
 rw [Int.toNat_natCast]
 have HK : As0 (1 ≤ N ∧ N ≤ 1000000) := ⟨by omega⟩
 have HR := As0.mk hr0
 have HM := As0.mk (mul_one_u64 N HK.out.2)
 have q0 : decide ((N : Int) < 0) = false := decide_eq_false (by omega)
 have q1 : IntKind.u64.wrap (N : Int) = (N : Int) := by have := HK.out; simp [IntKind.wrap, IntKind.bits, IntKind.signed]; omega
 have q2 : IntKind.i64.wrap (N : Int) = (N : Int) := by have := HK.out; simp [IntKind.wrap, IntKind.bits, IntKind.signed]; omega
 have q3 : decide (9223372036854775807 < (N : Int)) = false := decide_eq_false (by omega)
 clear hk hr0 hc0 h
 simp only [List.length_singleton] at *
 go_enter Tryz.func260, Tryz.ntmps260
 go_wp2_with (first | (go_at_call 275; (with_reducible refine (bits_Mul.calls 1 (N : Int) 0 (N : Int) _ HM.out).mono ?_); rintro e w' ⟨rfl, ⟨nd, rfl⟩⟩) | ((with_reducible refine gdt (N := 30) rfl ?_); refine Kd.R_make (Kd.int .i64) _ 3 rfl (N := 30) rfl 39 _ _ rfl (N : Int) rfl rfl Tryz.underlying39 (.int .i64 0) 8 info3 rfl (by decide) (by omega) 0 (ok := fun _ => True) (okp := fun _ => True) rfl (fun _ hk => hk) trivial (by omega) (by have := HK.out; omega) (pwN (Below.refl w.heap.size w) nd) (Nat.le_refl _) ?_; intro v1 w1 hv1 hb1 _ _; rw [Int.toNat_natCast] at hv1; obtain ⟨g, cap, rfl, hbg, hgl, cells, hcells⟩ := Kd.R_form hv1 (by rw [List.length_replicate]; have := HK.out; omega); rw [List.length_replicate] at hv1; simp only [List.length_replicate]; have HV := As0.mk hv1; have HG := As0.mk (And.intro hbg (Kd.R_reads' hv1).2.1); have HB := As0.mk hb1; clear hv1 hb1 hbg hgl hcells) | ((with_reducible refine gdt (N := 33) rfl ?_); go_loud (refine Kd.R_copy (0 : Int) (w0 := w) w.heap.size rfl (.tmp 31) (.tmp 32) 39 39 3 rfl Tryz.underlying39 (by kernel_rfl) (.slice (some ⟨g, 0, none⟩) N cap) (List.replicate N 0) [v] A0 1 c0 (fun _ => True) rfl rfl HV.out (Kd.C_below HR.out HB.out) HB.out HB.out.size ?_; intro w2 hv2 hb2 _; have e0 : min 1 (List.replicate N (0 : Int)).length = 1 := (by rw [List.length_replicate]; have := HK.out; omega); rw [e0] at hv2; rw [e0]; have HV2 := As0.mk (show (Kd.int .i64).R 3 w2 w.heap.size (fun _ => True) (.slice (some ⟨g, 0, none⟩) N cap) (List.replicate 1 v ++ List.replicate (N - 1) 0) from (by rw [← List.drop_replicate]; exact hv2)); have HB2 := As0.mk hb2; clear hv2 hb2 e0)))
 go_loopg [8] N (fun kq v8 w' => ∃ (m : Nat), v8 = .int .i64 (m : Int) ∧ As0 (1 ≤ m ∧ m ≤ N ∧ N ≤ m + kq) ∧ As0 ((Kd.int .i64).R 3 w' w.heap.size (fun _ => True) (.slice (some ⟨g, 0, none⟩) N cap) (List.replicate m v ++ List.replicate (N - m) 0)) ∧ As0 (Below w.heap.size w w'))
 case atStart => exact ⟨1, rfl, ⟨by omega, HK.out.1, by omega⟩, HV2, HB2⟩
 case round =>
  clear HV HB HV2 HB2
  obtain ⟨m, rfl, HI, HV, HB⟩ := hrel
  by_cases hmn : m < N
  ·cases gk with
   | zero => exact absurd HI.out (by omega)
   | succ kq1 =>
   have hlt : decide ((m : Int) < (N : Int)) = true := decide_eq_true (by omega)
   have hlt' : decide (m < N) = true := decide_eq_true hmn
   obtain ⟨k, hkk⟩ : ∃ k, k = min m (N - m) := ⟨_, rfl⟩
   have HKK : As0 (k = min m (N - m) ∧ m + k ≤ N ∧ 1 ≤ k) := ⟨hkk, by omega, by have := HI.out; omega⟩
   have hw : wrap64 ((m : Int) + (k : Int)) = ((m + k : Nat) : Int) := by have := HKK.out; have := HK.out; unfold wrap64; omega
   have HF := As0.mk (rep_fill w.heap.size (fun _ => True) g N cap v N k m wr.drew HKK.out.2.1 (Kd.R_drew HV.out))
   have hcap := HG.out.2
   have s0 : decide (0 ≤ (m : Int)) = true := decide_eq_true (by omega)
   have s1 : decide ((m : Int) ≤ (N : Int)) = true := decide_eq_true (by omega)
   have s2 : decide ((m : Int) ≤ (cap : Int)) = true := decide_eq_true (by omega)
   have s3 : decide ((N : Int) ≤ (cap : Int)) = true := decide_eq_true (by omega)
   have s4 : decide (0 ≤ (N : Int)) = true := decide_eq_true (by omega)
   have r0 : (0 ≤ (m : Int)) = True := eq_true (by omega)
   have r1 : ((m : Int) ≤ (N : Int)) = True := eq_true (by omega)
   have r2 : ((m : Int) ≤ (cap : Int)) = True := eq_true (by omega)
   have r3 : ((N : Int) ≤ (cap : Int)) = True := eq_true (by omega)
   have r4 : (m ≤ N) = True := eq_true (by omega)
   have r5 : (N ≤ cap) = True := eq_true (by omega)
   have r6 : (m ≤ cap) = True := eq_true (by omega)
   have t1 : (cap - m = 0) = False := eq_false (by omega)
   have t4 : (cap ≤ m) = False := eq_false (by omega)
   have t5 : (m = cap) = False := eq_false (by omega)
   have t6 : (cap = m) = False := eq_false (by omega)
   clear hkk hmn
   go_wp2
   refine start_ (n := 10) (S := fun w' => True) (ds := []) #[false, false, false, false, false, false, false, false, false, false] (by kernel_rfl) rfl rfl trivial (fun hHeld => ?_); refine with_tabW rep_walk.tab9 rep_walk.bits9 (fun HT_ HW_ => ?_)
   have HB9 : As0 (Below w.heap.size w (wr.drew.setCells g m (List.replicate k (.int .i64 v)))) := ⟨(bwd HB.out).grown HF.out.2 HB.out.size (fun q hq => by injection hq with hq; subst hq; exact HG.out.1)⟩
   have HVd := As0.mk (Kd.R_drew HV.out)
   clear HV HB
   generalize wr.drew = wd at *
   refine pure_ (i := 0) (N := some 38) (v := ?_) (a' := ?_) #[true, false, false, false, false, false, false, false, false, false] rfl rfl (any_of HT_.out (by kernel_rfl)) (fun _ _ _ h => h) (Or.inl ⟨by rfl, ?_⟩) ?_ ?_
   rotate_left
   ·intro w'
    go_simp
    with_reducible rfl
   rotate_left
   ·simp only [Act.put, List.setIfInBounds_toArray, List.set_cons_zero, List.set_cons_succ, i64_w, i32_w]
    rfl
   refine pure_ (i := 1) (N := some 39) (v := ?_) (a' := ?_) #[true, true, false, false, false, false, false, false, false, false] rfl rfl (any_of HT_.out (by kernel_rfl)) (fun _ _ _ h => h) (Or.inl ⟨by rfl, ?_⟩) ?_ ?_
   rotate_left
   ·intro w'
    go_simp
    with_reducible rfl
   rotate_left
   ·simp only [Act.put, List.setIfInBounds_toArray, List.set_cons_zero, List.set_cons_succ, i64_w, i32_w]
    rfl
   refine pure_ (i := 2) (N := some 40) (v := ?_) (a' := ?_) #[true, true, true, false, false, false, false, false, false, false] rfl rfl (any_of HT_.out (by kernel_rfl)) (fun _ _ _ h => h) (Or.inl ⟨by rfl, ?_⟩) ?_ ?_
   rotate_left
   ·intro w'
    go_simp
    with_reducible rfl
   rotate_left
   ·simp only [Act.put, List.setIfInBounds_toArray, List.set_cons_zero, List.set_cons_succ, i64_w, i32_w]
    rfl
   refine pure_ (i := 3) (N := some 41) (v := ?_) (a' := ?_) #[true, true, true, true, false, false, false, false, false, false] rfl rfl (any_of HT_.out (by kernel_rfl)) (fun _ _ _ h => h) (Or.inl ⟨by rfl, ?_⟩) ?_ ?_
   rotate_left
   ·intro w'
    go_simp
    with_reducible rfl
   rotate_left
   ·simp only [Act.put, List.setIfInBounds_toArray, List.set_cons_zero, List.set_cons_succ, i64_w, i32_w]
    rfl
   refine pure_ (i := 4) (N := some 42) (v := ?_) (a' := ?_) #[true, true, true, true, true, false, false, false, false, false] rfl rfl (any_of HT_.out (by kernel_rfl)) (fun _ _ _ h => h) (Or.inl ⟨by rfl, ?_⟩) ?_ ?_
   rotate_left
   ·intro w'
    go_simp
    with_reducible rfl
   rotate_left
   ·simp only [Act.put, List.setIfInBounds_toArray, List.set_cons_zero, List.set_cons_succ, i64_w, i32_w]
    rfl
   refine pure_ (i := 5) (N := some 43) (v := ?_) (a' := ?_) #[true, true, true, true, true, true, false, false, false, false] rfl rfl (any_of HT_.out (by kernel_rfl)) (fun _ _ _ h => h) (Or.inl ⟨by rfl, ?_⟩) ?_ ?_
   rotate_left
   ·intro w'
    go_simp
    with_reducible rfl
   rotate_left
   ·simp only [Act.put, List.setIfInBounds_toArray, List.set_cons_zero, List.set_cons_succ, i64_w, i32_w]
    rfl
   refine pure_ (i := 6) (N := some 44) (v := ?_) (a' := ?_) #[true, true, true, true, true, true, true, false, false, false] rfl rfl (any_of HT_.out (by kernel_rfl)) (fun _ _ _ h => h) (Or.inl ⟨by rfl, ?_⟩) ?_ ?_
   rotate_left
   ·intro w'
    go_simp
    with_reducible rfl
   rotate_left
   ·simp only [Act.put, List.setIfInBounds_toArray, List.set_cons_zero, List.set_cons_succ, i64_w, i32_w]
    rfl
   refine one_ (i := 7) (N := some 45) #[true, true, true, true, true, true, true, true, false, false] rfl rfl (one_of HT_.out (by kernel_rfl)) (by decide) (fun K hK => ?_)
   have hsrc : ∀ (j : Nat) (u : Value), (List.replicate k (Value.int .i64 v))[j]? = some u → wd.cell? ((⟨g, 0, none⟩ : Addr).add j) = some u := fun j u hj => by
    rw [List.getElem?_replicate] at hj
    split at hj
    case isFalse => cases hj
    case isTrue hjl =>
    obtain rfl := Option.some.inj hj
    have h9 := (Kd.R_celln 0 HVd.out (j : Int) (by omega) (by have := HKK.out; omega)).1
    rw [Int.toNat_natCast, rdOf, Int.toNat_natCast, List.getD_eq_getElem?_getD, List.getElem?_append_left (by rw [List.length_replicate]; have := HKK.out; omega), List.getElem?_replicate, if_pos (by have := HKK.out; omega)] at h9
    rw [add_plain]
    exact h9
   have hcells : ∀ j, j < (List.replicate k (Value.int .i64 v)).length → wd.cell? ⟨g, m + j, none⟩ = some (.int .i64 (rdOf 0 (List.replicate m v ++ List.replicate (N - m) 0) ((m + j : Nat) : Int))) ∧ wd.frozen? ⟨g, m + j, none⟩ = false := fun j hj => by
    rw [List.length_replicate] at hj
    have h9 := Kd.R_celln 0 HVd.out ((m + j : Nat) : Int) (by omega) (by have := HKK.out; omega)
    rwa [Int.toNat_natCast] at h9
   have hrc := run_copy_cells (P := Tryz.prog) wd 39 39 3 3 g m (N - m) (cap - m) ⟨g, 0, none⟩ m cap (List.replicate k (.int .i64 v)) Tryz.underlying39 (by kernel_rfl) (by rw [List.length_replicate]; exact HKK.out.1) hsrc (fun j hj => by rw [(hcells j hj).1]; rfl) (fun j hj => (hcells j hj).2) (fun u hu => by rw [List.eq_of_mem_replicate hu]; rfl)
   rw [List.length_replicate] at hrc
   clear hsrc hcells
   refine value_ (w1 := wd.setCells g m (List.replicate k (.int .i64 v))) (v := .int .i64 (k : Int)) (by rfl) rfl ?_ ?_
   ·go_simp
   refine hK.out _ _ trivial (fun hHeld => ?_)
   clear hK K
   refine norm_ (a' := ?_) ?_ ?_
   rotate_left
   ·show Act.put _ (some 45) _ = _
    simp only [Act.put, List.setIfInBounds_toArray, List.set_cons_zero, List.set_cons_succ, i64_w, i32_w]
    rfl
   refine pure_ (i := 8) (N := some 46) (v := ?_) (a' := ?_) #[true, true, true, true, true, true, true, true, true, false] rfl rfl (any_of HT_.out (by kernel_rfl)) (fun _ _ _ h => h) (Or.inl ⟨by rfl, ?_⟩) ?_ ?_
   rotate_left
   ·intro w'
    go_simp
    with_reducible rfl
   rotate_left
   ·simp only [Act.put, List.setIfInBounds_toArray, List.set_cons_zero, List.set_cons_succ, i64_w, i32_w]
    rfl
   refine pure_ (i := 9) (N := some 8) (v := ?_) (a' := ?_) #[true, true, true, true, true, true, true, true, true, true] rfl rfl (any_of HT_.out (by kernel_rfl)) (fun _ _ _ h => h) (Or.inl ⟨by rfl, ?_⟩) ?_ ?_
   rotate_left
   ·intro w'
    go_simp
    with_reducible rfl
   rotate_left
   ·simp only [Act.put, List.setIfInBounds_toArray, List.set_cons_zero, List.set_cons_succ, i64_w, i32_w]
    rfl
   refine done_ (done_of HT_.out (by kernel_rfl)) ?_
   go_wp2
   go_roundg kq1
   case measure => omega
   case rel => exact ⟨m + k, (by first | rfl | exact congrArg _ (by omega)), ⟨by have := HI.out; omega, by have := HKK.out; omega, by have := HI.out; have := HKK.out; omega⟩, ⟨HF.out.1⟩, ⟨HB9.out⟩⟩
  ·have hlt : decide ((m : Int) < (N : Int)) = false := decide_eq_false (by omega)
   have hlt' : decide (m < N) = false := decide_eq_false hmn
   have hmN : m = N := by have := HI.out; omega
   go_wp2
   go_ret
   exact ⟨_, rfl, by have h9 := HV.out; rw [hmN, Nat.sub_self, List.replicate_zero, List.append_nil] at h9; exact h9, HB.out⟩
def canvasP (x : S68) : List (List Int) := x.f9.map fun v => List.replicate (x.f7 * x.f8).toNat v
def draw_walk.T5 : Bool × List (List Nat × List Nat) := (true, [([], []), ([0], [0]), ([], []), ([2], [2]), ([], []), ([4], [4]), ([], []), ([6], [6]), ([5, 7], [5, 7]), ([3, 8], [3, 8]), ([9], [9]), ([1, 10, 9], [1, 10]), ([0, 1, 2, 3, 4, 5, 6, 7, 8, 9, 10, 11], []), ([12, 11, 11, 0, 1, 2, 3, 4, 5, 6, 7, 8, 9, 10, 11], [11, 12])])
def draw_walk.B5 : List Nat := [0, 1, 0, 4, 0, 16, 0, 64, 240, 508, 1020, 2047, 4095, 8191]
theorem draw_walk.tab5 : rtab .any (opsOf Tryz.f322 5) = draw_walk.T5 := by kernel_rfl
theorem draw_walk.bits5 : waitsOk draw_walk.T5.2 draw_walk.B5 = true := by kernel_rfl
theorem C_one (w : World) (v : Int) : Kd.C (Kd.int .i64) (w.alloc (.cells #[.int .i64 v] 3)) (some ⟨w.heap.size, 0, none⟩) [v].length [v] := by
 have h : (Kd.int .i64).R 3 (w.alloc (.cells #[.int .i64 v] 3)) w.heap.size (fun _ => True) (.slice (some ⟨w.heap.size, 0, none⟩) 1 1) [v] :=
  ⟨fun _ _ => trivial, OwnRow.lit w w.heap.size (inner := [.int .i64 v]) (ps := [v]) ⟨rfl, fun j p hj => by
   cases j with
   | zero => exact Option.some.inj hj ▸ rfl
   | succ j => simp at hj⟩ (Nat.le_refl _) (by simp)⟩
 exact (Kd.R_reads' h).2.2
set_option maxHeartbeats 16000000 in
set_option maxRecDepth 100000 in
theorem draw_canvas (x : S68) (A2 : Option Addr) (c2 : Nat) (A3 : Option Addr) (c3 : Nat) (A4 : Option Addr) (c4 : Nat) (A9 : Option Addr) (c9 : Nat) (A1 : Option Addr) (c1 : Nat) (w : World) (hr9 : Kd.C (Kd.int .i64) w A9 x.f9.length x.f9) (hx : 1 ≤ x.f7 ∧ x.f7 ≤ 1000 ∧ 1 ≤ x.f8 ∧ x.f8 ≤ 1000 ∧ x.f9.length ≤ 1000) :
  Calls Tryz.prog 322 #[.agg #[.int .i64 x.f0, .int .i64 x.f1, .slice A2 x.f2.length c2, .slice A3 x.f3.length c3, .slice A4 x.f4.length c4, .int .i64 x.f5, .int .i64 x.f6, .int .i64 x.f7, .int .i64 x.f8, .slice A9 x.f9.length c9, .int .i64 x.f10, .bool x.f11], .slice A1 0 c1] w fun e w' => ∃ v3_ : Value, e = .returned (.agg #[.int .i64 x.f7, .int .i64 x.f8, .int .i64 8, v3_]) ∧ Kd.S (Kd.slice 3 (Kd.int .i64)) 39 w' w.heap.size (fun _ => True) v3_ (canvasP x) ∧ Below w.heap.size w w' := by
 have HX := As0.mk hx
 have HR := As0.mk hr9
 clear hx hr9
 have hu24 := Tryz.underlying24
 have hu157 := Tryz.underlying157
 have hlen := As0.mk HR.out.2.1
 go_enter Tryz.func322, Tryz.ntmps322
 go_wp2_with (first | ((with_reducible refine gdt (N := 2) rfl ?_); refine bxe ?hg (N := 2) ?hd (cs := #[.int .i64 x.f0, .int .i64 x.f1, .slice A2 x.f2.length c2, .slice A3 x.f3.length c3, .slice A4 x.f4.length c4, .int .i64 x.f5, .int .i64 x.f6, .int .i64 x.f7, .int .i64 x.f8, .slice A9 x.f9.length c9, .int .i64 x.f10, .bool x.f11]) (t := 157) ?hr ?_; (case hd => rfl); (case hg => rfl); (case hr => first | (go_simp; done) | (go_simp; rfl)); intro g2 hgg2 w2 hboxg2 hbg2; have BKg2 := As0.mk hboxg2; have HB2 := As0.mk hbg2; clear hboxg2 hbg2 hgg2) | ((with_reducible refine gdt (N := 4) rfl ?_); refine bxe ?hg (N := 4) ?hd (cs := #[.int .i64 0, .int .i64 0, .int .i64 0, .slice none 0 0]) (t := 24) ?hr ?_; (case hd => rfl); (case hg => rfl); (case hr => first | (go_simp; done) | (go_simp; rfl)); intro g4 hgg4 w3 hboxg4 hbg4; have BKg4 := As0.mk hboxg4; have GE4 : As0 (w.heap.size ≤ g4) := ⟨by have := HB2.out.size; omega⟩; have HB3 := As0.mk (pwt HB2.out hbg4); replace BKg2 := As0.mk (bkb BKg2.out hbg4); have k7 : w3.cell? ⟨g2, 7, none⟩ = some (.int .i64 x.f7) := (bkc BKg2.out 7).trans rfl; have k8 : w3.cell? ⟨g2, 8, none⟩ = some (.int .i64 x.f8) := (bkc BKg2.out 8).trans rfl; clear hboxg4 hbg4 hgg4) | ((with_reducible refine gdt (N := 5) rfl ?_); refine bxe ?hg (N := 5) ?hd (cs := #[.int .i64 0, .int .i64 0, .int .i64 0, .slice none 0 0]) (t := 24) ?hr ?_; (case hd => rfl); (case hg => rfl); (case hr => first | (go_simp; done) | (go_simp; rfl)); intro g5 hgg5 w4 hboxg5 hbg5; have BKg5 := As0.mk hboxg5; have GE5 : As0 (w.heap.size ≤ g5) := ⟨by have := HB3.out.size; omega⟩; have NE45 : As0 (g4 ≠ g5) := ⟨by have := blk_lt BKg4.out; omega⟩; have NE25 : As0 (g2 ≠ g5) := ⟨by have := blk_lt BKg2.out; omega⟩; replace BKg4 := As0.mk (bkb BKg4.out hbg5); replace BKg2 := As0.mk (bkb BKg2.out hbg5); have HB4 := As0.mk (pwt HB3.out hbg5); clear k7 k8; have z0 : w4.cell? ⟨g5, 0, none⟩ = some (.int .i64 0) := (bkc BKg5.out 0).trans rfl; have z1 : w4.cell? ⟨g5, 1, none⟩ = some (.int .i64 0) := (bkc BKg5.out 1).trans rfl; have z2 : w4.cell? ⟨g5, 2, none⟩ = some (.int .i64 0) := (bkc BKg5.out 2).trans rfl; have z3 : w4.cell? ⟨g5, 3, none⟩ = some (.slice none 0 0) := (bkc BKg5.out 3).trans rfl; have fz0 := bkz BKg5.out 0; have fz1 := bkz BKg5.out 1; have fz2 := bkz BKg5.out 2; have fz3 := bkz BKg5.out 3; have m9 : ∀ v0 v1 v2 v3 : Value, ((((w4.setCell ⟨g5, 0, none⟩ v0).setCell ⟨g5, 1, none⟩ v1).setCell ⟨g5, 2, none⟩ v2).setCell ⟨g5, 3, none⟩ v3).cell? ⟨g2, 9, none⟩ = some (.slice A9 x.f9.length c9) := fun v0 v1 v2 v3 => (bkc (four_far BKg2.out NE25.out v0 v1 v2 v3) 9).trans rfl; clear hboxg5 hbg5 hgg5))
 clear z0 z1 z2 z3 fz0 fz1 fz2 fz3 m9
 go_loopg [18] x.f9.length (fun kq v18 w' => ∃ (i : Int) (u : Value), v18 = .int .i64 i ∧ As0 (0 ≤ i ∧ i + kq = x.f9.length) ∧ As0 (Kd.S (Kd.slice 3 (Kd.int .i64)) 39 w' w.heap.size (fun _ => True) u ((x.f9.take i.toNat).map fun v => List.replicate (x.f7 * x.f8).toNat v)) ∧ As0 (w'.heap[g2]? = some (.cells #[.int .i64 x.f0, .int .i64 x.f1, .slice A2 x.f2.length c2, .slice A3 x.f3.length c3, .slice A4 x.f4.length c4, .int .i64 x.f5, .int .i64 x.f6, .int .i64 x.f7, .int .i64 x.f8, .slice A9 x.f9.length c9, .int .i64 x.f10, .bool x.f11] 157 (0, 0))) ∧ As0 (w'.heap[g4]? = some (.cells #[.int .i64 0, .int .i64 0, .int .i64 0, .slice none 0 0] 24 (0, 0))) ∧ As0 (w'.heap[g5]? = some (.cells #[.int .i64 x.f7, .int .i64 x.f8, .int .i64 8, u] 24 (0, 0))) ∧ As0 (Below w.heap.size w w'))
 case atStart => exact ⟨0, .slice none 0 0, rfl, ⟨by omega, by omega⟩, ⟨Kd.S_nil _ _ _ _ _⟩, ⟨four_far BKg2.out NE25.out _ _ _ _⟩, ⟨four_far BKg4.out NE45.out _ _ _ _⟩, ⟨four_put BKg5.out _ _ _ _⟩, ⟨four_below HB4.out GE5.out _ _ _ _⟩⟩
 case round =>
  clear BKg2 BKg4 BKg5 HB4 HB3 HB2
  obtain ⟨i, u, rfl, HI, HS, BKg2, BKg4, BKg5, HB⟩ := hrel
  obtain ⟨Au, cu, rfl⟩ := Kd.S_slice HS.out
  cases gk with
  | zero =>
   have hge : decide (i < (x.f9.length : Int)) = false := by have := HI.out; simp; omega
   rw [List.take_of_length_le (by have := HI.out; omega)] at HS
   rw [List.take_of_length_le (by have := HI.out; omega)] at BKg5
   rw [List.length_map] at BKg5 HS
   go_wp2
   go_loopg [38] 0 (fun kq v38 w' => v38 = .int .i64 0 ∧ w' = wr)
   case atStart => exact ⟨rfl, rfl⟩
   case round =>
    obtain ⟨rfl, rfl⟩ := hrel
    have k0 : _root_.Go.World.cell? _ ⟨g5, 0, none⟩ = some (.int .i64 x.f7) := (bkc BKg5.out 0).trans rfl; have k1 : _root_.Go.World.cell? _ ⟨g5, 1, none⟩ = some (.int .i64 x.f8) := (bkc BKg5.out 1).trans rfl; have k2 : _root_.Go.World.cell? _ ⟨g5, 2, none⟩ = some (.int .i64 8) := (bkc BKg5.out 2).trans rfl; have k3 : _root_.Go.World.cell? _ ⟨g5, 3, none⟩ = some (.slice Au x.f9.length cu) := (bkc BKg5.out 3).trans rfl
    have z0 : _root_.Go.World.cell? _ ⟨g4, 0, none⟩ = some (.int .i64 0) := (bkc BKg4.out 0).trans rfl; have z1 : _root_.Go.World.cell? _ ⟨g4, 1, none⟩ = some (.int .i64 0) := (bkc BKg4.out 1).trans rfl; have z2 : _root_.Go.World.cell? _ ⟨g4, 2, none⟩ = some (.int .i64 0) := (bkc BKg4.out 2).trans rfl; have z3 : _root_.Go.World.cell? _ ⟨g4, 3, none⟩ = some (.slice none 0 0) := (bkc BKg4.out 3).trans rfl
    have fz0 := bkz BKg4.out 0; have fz1 := bkz BKg4.out 1; have fz2 := bkz BKg4.out 2; have fz3 := bkz BKg4.out 3
    go_wp2
    refine bodyPost_ret (results_cell_row rfl _ _ g4 24 #[.int .i64 x.f7, .int .i64 x.f8, .int .i64 8, .slice Au x.f9.length cu] (0, 0) _ rfl (four_put BKg4.out _ _ _ _) Tryz.underlying24 rfl (by kernel_rfl)) rfl ?_
    exact ⟨_, rfl, four_S HS.out BKg4.out (by decide) _ _ _ _, four_below HB.out GE4.out _ _ _ _⟩
  | succ kq1 =>
   have h0 : 0 ≤ i := by have := HI.out; omega
   have h1 : i < (x.f9.length : Int) := by have := HI.out; omega
   have hge : decide (i < (x.f9.length : Int)) = true := decide_eq_true h1
   have hg0 : decide (0 ≤ i) = true := decide_eq_true h0
   obtain ⟨ad, e0, hc⟩ := ReadsInt.at_ (Kd.reads_of_C (d := 0) HR.out : ReadsInt w .i64 A9 x.f9.length x.f9) i h0 h1
   cases e0
   replace hc := (HB.out.cell (World.block_lt_of_cell? w _ hc)).trans hc
   have hxx : x.f9[i.toNat]? = some (rd x.f9 i) := by
    have hl : i.toNat < x.f9.length := by omega
    simp [rd, List.getElem?_eq_getElem hl, List.getD_eq_getElem?_getD]
   have htk : (x.f9.take (i.toNat + 1)).map (fun v => List.replicate (x.f7 * x.f8).toNat v) = ((x.f9.take i.toNat).map fun v => List.replicate (x.f7 * x.f8).toNat v) ++ [List.replicate (x.f7 * x.f8).toNat (rd x.f9 i)] := by
    rw [List.take_add_one, hxx]
    simp
   have HTK := As0.mk htk
   clear hxx htk
   generalize rd x.f9 i = v9 at *
   have hm : 1 ≤ x.f7 * x.f8 ∧ x.f7 * x.f8 ≤ 1000000 := ⟨by have := Int.mul_le_mul HX.out.1 HX.out.2.2.1 (by omega) (by have := HX.out; omega); omega, by have := Int.mul_le_mul HX.out.2.1 HX.out.2.2.2.1 (by have := HX.out; omega) (by omega); omega⟩
   have hwm : wrap64 (x.f7 * x.f8) = x.f7 * x.f8 := by unfold wrap64; omega
   have HRP : As0 (slices_Repeat_int_int.f [v9] (x.f7 * x.f8) = some (List.replicate (x.f7 * x.f8).toNat v9)) := ⟨if_pos hm⟩
   have hw : As0 (wrap64 (i + 1) = i + 1 ∧ (i + 1).toNat = i.toNat + 1) := ⟨by have := HI.out; have := HX.out; unfold wrap64; omega, by omega⟩
   have hpl : As0 (((x.f9.take i.toNat).map fun v => List.replicate (x.f7 * x.f8).toNat v).length ≤ 1000) := ⟨by rw [List.length_map, List.length_take]; have := HX.out; omega⟩
   generalize ((x.f9.take i.toNat).map fun v => List.replicate (x.f7 * x.f8).toNat v) = pl at *
   clear hm
   replace h0 := eq_true h0
   replace h1 := eq_true h1
   go_wp2
   refine start_ (n := 14) (S := fun w' => w'.cell? ⟨g5, 3, none⟩ = some (.slice Au pl.length cu) ∧ w'.cell? ⟨g2, 7, none⟩ = some (.int .i64 x.f7) ∧ w'.cell? ⟨g2, 8, none⟩ = some (.int .i64 x.f8)) (ds := [13]) #[false, false, false, false, false, false, false, false, false, false, false, false, false, false] (by kernel_rfl) rfl rfl ⟨(bkc (bkd BKg5.out) 3).trans rfl, (bkc (bkd BKg2.out) 7).trans rfl, (bkc (bkd BKg2.out) 8).trans rfl⟩ (fun hHeld => ?_); refine with_tabW draw_walk.tab5 draw_walk.bits5 (fun HT_ HW_ => ?_)
   replace HS := As0.mk (Kd.S_drew HS.out)
   replace BKg2 := As0.mk (bkd BKg2.out)
   replace BKg4 := As0.mk (bkd BKg4.out)
   replace BKg5 := As0.mk (bkd BKg5.out)
   replace HB := As0.mk (bwd HB.out)
   generalize wr.drew = wd at *
   refine pure_ (i := 0) (N := some 22) (v := ?_) (a' := ?_) #[true, false, false, false, false, false, false, false, false, false, false, false, false, false] rfl rfl (any_of HT_.out (by kernel_rfl)) (fun _ _ _ h => h) (Or.inl ⟨by rfl, ?_⟩) ?_ ?_
   rotate_left
   ·intro w'
    go_simp
    with_reducible rfl
   rotate_left
   ·simp only [Act.put, List.setIfInBounds_toArray, List.set_cons_zero, List.set_cons_succ, i64_w, i32_w, hwm]
    rfl
   refine pure_ (i := 2) (N := some 24) (v := ?_) (a' := ?_) #[true, false, true, false, false, false, false, false, false, false, false, false, false, false] rfl rfl (any_of HT_.out (by kernel_rfl)) (fun _ _ _ h => h) (Or.inl ⟨by rfl, ?_⟩) ?_ ?_
   rotate_left
   ·intro w'
    go_simp
    with_reducible rfl
   rotate_left
   ·simp only [Act.put, List.setIfInBounds_toArray, List.set_cons_zero, List.set_cons_succ, i64_w, i32_w, hwm]
    rfl
   refine pure_ (i := 4) (N := some 26) (v := ?_) (a' := ?_) #[true, false, true, false, true, false, false, false, false, false, false, false, false, false] rfl rfl (any_of HT_.out (by kernel_rfl)) (fun _ _ _ h => h) (Or.inl ⟨by rfl, ?_⟩) ?_ ?_
   rotate_left
   ·intro w'
    go_simp
    with_reducible rfl
   rotate_left
   ·simp only [Act.put, List.setIfInBounds_toArray, List.set_cons_zero, List.set_cons_succ, i64_w, i32_w, hwm]
    rfl
   refine pure_ (i := 6) (N := some 28) (v := ?_) (a' := ?_) #[true, false, true, false, true, false, true, false, false, false, false, false, false, false] rfl rfl (any_of HT_.out (by kernel_rfl)) (fun _ _ _ h => h) (Or.inl ⟨by rfl, ?_⟩) ?_ ?_
   rotate_left
   ·intro w'
    go_simp
    with_reducible rfl
   rotate_left
   ·simp only [Act.put, List.setIfInBounds_toArray, List.set_cons_zero, List.set_cons_succ, i64_w, i32_w, hwm]
    rfl
   refine take_ (i := 1) (N := some 23) (v := ?_) (a' := ?_) #[true, true, true, false, true, false, true, false, false, false, false, false, false, false] rfl rfl (take_ofW HT_.out HW_.out (by kernel_rfl)) (fun _ _ _ h => h) (Or.inl ⟨by rfl, ?_⟩) hHeld ?_ ?_
   rotate_left
   ·rintro w' ⟨s0, s1, s2⟩
    go_simp
    with_reducible rfl
   rotate_left
   ·simp only [Act.put, List.setIfInBounds_toArray, List.set_cons_zero, List.set_cons_succ, i64_w, i32_w, hwm]
    rfl
   refine take_ (i := 5) (N := some 27) (v := ?_) (a' := ?_) #[true, true, true, false, true, true, true, false, false, false, false, false, false, false] rfl rfl (take_ofW HT_.out HW_.out (by kernel_rfl)) (fun _ _ _ h => h) (Or.inl ⟨by rfl, ?_⟩) hHeld ?_ ?_
   rotate_left
   ·rintro w' ⟨s0, s1, s2⟩
    go_simp
    with_reducible rfl
   rotate_left
   ·simp only [Act.put, List.setIfInBounds_toArray, List.set_cons_zero, List.set_cons_succ, i64_w, i32_w, hwm]
    rfl
   refine take_ (i := 7) (N := some 29) (v := ?_) (a' := ?_) #[true, true, true, false, true, true, true, true, false, false, false, false, false, false] rfl rfl (take_ofW HT_.out HW_.out (by kernel_rfl)) (fun _ _ _ h => h) (Or.inl ⟨by rfl, ?_⟩) hHeld ?_ ?_
   rotate_left
   ·rintro w' ⟨s0, s1, s2⟩
    go_simp
    with_reducible rfl
   rotate_left
   ·simp only [Act.put, List.setIfInBounds_toArray, List.set_cons_zero, List.set_cons_succ, i64_w, i32_w, hwm]
    rfl
   refine pure_ (i := 8) (N := some 30) (v := ?_) (a' := ?_) #[true, true, true, false, true, true, true, true, true, false, false, false, false, false] rfl rfl (any_of HT_.out (by kernel_rfl)) (fun _ _ _ h => h) (Or.inl ⟨by rfl, ?_⟩) ?_ ?_
   rotate_left
   ·intro w'
    go_simp
    with_reducible rfl
   rotate_left
   ·simp only [Act.put, List.setIfInBounds_toArray, List.set_cons_zero, List.set_cons_succ, i64_w, i32_w, hwm]
    rfl
   refine one_ (i := 3) (N := some 25) #[true, true, true, true, true, true, true, true, true, false, false, false, false, false] rfl rfl (one_of HT_.out (by kernel_rfl)) (by decide) (fun K hK => ?_)
   refine value_ (w1 := ?_) (v := ?_) (by rfl) rfl ?_ ?_
   rotate_left 2
   ·go_simp
    constructor
    ·rfl
    ·rfl
   refine hK.out _ _ ⟨(bkc (bka BKg5.out _) 3).trans rfl, (bkc (bka BKg2.out _) 7).trans rfl, (bkc (bka BKg2.out _) 8).trans rfl⟩ (fun hHeld => ?_)
   clear hK K
   refine norm_ (a' := ?_) ?_ ?_
   rotate_left
   ·show Act.put _ (some 25) _ = _
    simp only [Act.put, List.setIfInBounds_toArray, List.set_cons_zero, List.set_cons_succ, i64_w, i32_w]
    rfl
   refine one_ (i := 9) (N := some 31) #[true, true, true, true, true, true, true, true, true, true, false, false, false, false] rfl rfl (one_of HT_.out (by kernel_rfl)) (by decide) (fun K hK => ?_)
   refine goes_ Tryz.func260 (by kernel_rfl) rfl #[.slice (some ⟨wd.heap.size, 0, none⟩) 1 1, .int .i64 (x.f7 * x.f8)] (by rfl) rfl rfl (by (try simp only [List.map_toArray, List.map_cons, List.map_nil]); first | done | rfl) ?_
   refine (slices_Repeat_int_int.calls (some ⟨wd.heap.size, 0, none⟩) 1 [v9] (x.f7 * x.f8) _ _ ?s1 (Nat.le_refl _) HRP.out).mono ?_
   (case s1 => exact C_one wd v9)
   rintro e w9 ⟨vr, rfl, hr9, hb9⟩
   refine ⟨_, rfl, ?_⟩
   obtain ⟨Ar, cr, rfl⟩ := Kd.R_slice hr9
   rw [List.length_replicate] at hr9
   rw [List.length_replicate]
   have HR9 := As0.mk hr9
   have BKg2a := As0.mk (bkb (bka BKg2.out _) hb9)
   have BKg4a := As0.mk (bkb (bka BKg4.out _) hb9)
   have BKg5a := As0.mk (bkb (bka BKg5.out _) hb9)
   have HBa := As0.mk (pwt (bwa HB.out _) hb9)
   have HSa := As0.mk (Kd.S_below (Kd.S_alloc HS.out _) hb9)
   have HSb := As0.mk (Kd.S_old (Kd.S_alloc HS.out _) hb9)
   obtain ⟨NB, hNB⟩ : ∃ b, b = (wd.alloc (.cells #[.int .i64 v9] 3)).heap.size := ⟨_, rfl⟩
   have hNBw : w.heap.size ≤ NB := (by rw [hNB]; exact (bwa HB.out _).size)
   rw [← hNB] at HR9 HSb
   clear hr9 hb9
   refine hK.out _ _ ⟨(bkc BKg5a.out 3).trans rfl, (bkc BKg2a.out 7).trans rfl, (bkc BKg2a.out 8).trans rfl⟩ (fun hHeld => ?_)
   clear hK K
   refine norm_ (a' := ?_) ?_ ?_
   rotate_left
   ·show Act.put _ (some 31) _ = _
    simp only [Act.put, List.setIfInBounds_toArray, List.set_cons_zero, List.set_cons_succ, i64_w, i32_w]
    rfl
   refine one_ (i := 10) (N := some 32) #[true, true, true, true, true, true, true, true, true, true, true, false, false, false] rfl rfl (one_of HT_.out (by kernel_rfl)) (by decide) (fun K hK => ?_)
   refine value_ (w1 := ?_) (v := ?_) (by rfl) rfl ?_ ?_
   rotate_left 2
   ·go_simp
    constructor
    ·rfl
    ·rfl
   refine hK.out _ _ ⟨(bkc (bka BKg5a.out _) 3).trans rfl, (bkc (bka BKg2a.out _) 7).trans rfl, (bkc (bka BKg2a.out _) 8).trans rfl⟩ (fun hHeld => ?_)
   clear hK K
   refine norm_ (a' := ?_) ?_ ?_
   rotate_left
   ·show Act.put _ (some 32) _ = _
    simp only [Act.put, List.setIfInBounds_toArray, List.set_cons_zero, List.set_cons_succ, i64_w, i32_w]
    rfl
   refine one_ (i := 11) (N := some 33) #[true, true, true, true, true, true, true, true, true, true, true, true, false, false] rfl rfl (one_of HT_.out (by kernel_rfl)) (by decide) (fun K hK => ?_)
   refine Kd.S_append_step (Kd.slice 3 (Kd.int .i64)) (w0 := w) w.heap.size (by rfl) (.tmp 23) (.tmp 32) 22 39 (.slice none 0 0) 24 rfl Tryz.underlying22 info39 rfl (by decide) (by omega) (.slice Au pl.length cu) pl (List.replicate (x.f7 * x.f8).toNat v9) [.slice Ar (x.f7 * x.f8).toNat cr] (fun _ => True) (fun k => NB ≤ k) rfl rfl ?aP ?aK (fun _ _ => trivial) ?aO HBa.out HBa.out.size (by have := hpl.out; omega) ?_
   (case aP => exact ⟨_, rfl, Kd.R_lower (Kd.R_mono (Kd.R_bound HR9.out) (fun k hk => by have := hk.2.1; omega)) (by omega)⟩)
   (case aK => intro k hk; exact ⟨trivial, fun he => by have := Kd.S_lt (Kd.S_alloc HS.out (.cells #[.int .i64 v9] 3)) k he.symm; omega⟩)
   (case aO => exact Kd.S_mono HSb.out (fun k hk => ⟨trivial, by have := hk.2; omega⟩))
   intro v1 w1 hs1 hb1 hg1 _
   have HB1 := As0.mk hb1
   have BKg2b := As0.mk (blk_grown BKg2a.out hg1 (Kd.S_ne HSa.out BKg2a.out (by decide)))
   have BKg4b := As0.mk (blk_grown BKg4a.out hg1 (Kd.S_ne HSa.out BKg4a.out (by decide)))
   have BKg5b := As0.mk (blk_grown BKg5a.out hg1 (Kd.S_ne HSa.out BKg5a.out (by decide)))
   obtain ⟨A1_, c1_, rfl⟩ := Kd.S_slice hs1
   rw [List.length_append, List.length_singleton] at hs1
   have HS1 := As0.mk hs1
   rw [List.length_append, List.length_singleton]
   clear hs1 hb1 hg1
   refine hK.out _ _ ⟨(bkc BKg5b.out 3).trans rfl, (bkc BKg2b.out 7).trans rfl, (bkc BKg2b.out 8).trans rfl⟩ (fun hHeld => ?_)
   clear hK K
   refine norm_ (a' := ?_) ?_ ?_
   rotate_left
   ·show Act.put _ (some 33) _ = _
    simp only [Act.put, List.setIfInBounds_toArray, List.set_cons_zero, List.set_cons_succ, i64_w, i32_w]
    rfl
   refine pure_ (i := 12) (N := some 34) (v := ?_) (a' := ?_) #[true, true, true, true, true, true, true, true, true, true, true, true, true, false] rfl rfl (any_of HT_.out (by kernel_rfl)) (fun _ _ _ h => h) (Or.inl ⟨by rfl, ?_⟩) ?_ ?_
   rotate_left
   ·intro w'
    go_simp
    with_reducible rfl
   rotate_left
   ·simp only [Act.put, List.setIfInBounds_toArray, List.set_cons_zero, List.set_cons_succ, i64_w, i32_w, hwm]
    rfl
   refine last_ (i := 13) (N := none) #[true, true, true, true, true, true, true, true, true, true, true, true, true, true] rfl rfl (one_of HT_.out (by kernel_rfl)) (by decide) (fun K hK => ?_)
   have k9 : w1.cell? ⟨g5, 3, none⟩ = some (.slice Au pl.length cu) := (bkc BKg5b.out 3).trans rfl
   have f9 := bkz BKg5b.out 3
   refine skip_ (w1 := ?_) (by rfl) rfl ?_ ?_
   rotate_left
   ·go_simp
    rfl
   refine hK.out _ _ ?_
   clear hK K
   refine done_ (done_of HT_.out (by kernel_rfl)) ?_
   go_wp2
   go_roundg kq1
   case measure => omega
   case rel => exact ⟨i + 1, _, congrArg _ hw.out.1, ⟨by have := HI.out; omega, by have := HI.out; omega⟩, ⟨by rw [hw.out.2, HTK.out]; exact Kd.S_set HS1.out BKg5b.out (by decide) 3 _⟩, ⟨bkf BKg2b.out (ne_types BKg2b.out BKg5b.out (by decide)) _⟩, ⟨bkf BKg4b.out NE45.out _⟩, ⟨blk_put BKg5b.out 3 _ rfl⟩, ⟨bws HB1.out GE5.out⟩⟩
theorem enters_324 : ∀ (args : Array Value) (W : World), (callFunc 324 args).run Tryz.prog W = .ok (.enter 324 args) W := enters_of Tryz.func324 (by kernel_rfl) rfl
set_option maxHeartbeats 8000000 in
set_option maxRecDepth 100000 in
theorem pred_324 (a b n : Int) (gb : Nat) (w : World) (hb : w.heap[gb]? = some (.cells #[.int .i64 a, .int .i64 b, .int .i64 8, .int .i64 n] 104 (0, 0))) : PredIn Tryz.prog 324 #[.pointer (some ⟨gb, 0, none⟩)] (fun _ (x : Int) v => v = .int .i64 x) (fun id => decide (256 ≤ id)) w := ⟨enters_324, fun W x v hW he => by
 subst he
 have hu104 := Tryz.underlying104
 have k2 : W.cell? ⟨gb, 2, none⟩ = some (.int .i64 8) := (bkc ((hW.block gb (blk_lt hb)).trans hb) 2).trans rfl
 clear hb hW
 simp only [List.append_toArray, List.cons_append, List.nil_append]
 go_enter Tryz.func324, Tryz.ntmps324
 go_wp2
 go_ret
 exact ⟨rfl, Below.refl _ _⟩⟩
set_option maxHeartbeats 16000000 in
set_option maxRecDepth 100000 in
theorem shape_canvas (x : S68) (A2 : Option Addr) (c2 : Nat) (A3 : Option Addr) (c3 : Nat) (A4 : Option Addr) (c4 : Nat) (A9 : Option Addr) (c9 : Nat) (A1 : Option Addr) (c1 : Nat) (w : World) (hr9 : Kd.C (Kd.int .i64) w A9 x.f9.length x.f9) (hx : (x.f9.any fun v => decide (256 ≤ v)) = false) :
  Calls Tryz.prog 323 #[.agg #[.int .i64 x.f0, .int .i64 x.f1, .slice A2 x.f2.length c2, .slice A3 x.f3.length c3, .slice A4 x.f4.length c4, .int .i64 x.f5, .int .i64 x.f6, .int .i64 x.f7, .int .i64 x.f8, .slice A9 x.f9.length c9, .int .i64 x.f10, .bool x.f11], .slice A1 0 c1] w fun e w' => e = .returned (.tuple #[.agg #[.int .i64 x.f7, .int .i64 x.f8, .int .i64 8, .int .i64 (x.f9.length : Int)], .int .i64 0]) ∧ Below w.heap.size w w' := by
 have HX := As0.mk hx
 have HR := As0.mk hr9
 clear hx hr9
 have hu104 := Tryz.underlying104
 have hu157 := Tryz.underlying157
 have hmf := makeFunc_run
 go_enter Tryz.func323, Tryz.ntmps323
 go_wp2_with (first | ((with_reducible refine gdt (N := 2) rfl ?_); refine bxe ?hg (N := 2) ?hd (cs := #[.int .i64 x.f0, .int .i64 x.f1, .slice A2 x.f2.length c2, .slice A3 x.f3.length c3, .slice A4 x.f4.length c4, .int .i64 x.f5, .int .i64 x.f6, .int .i64 x.f7, .int .i64 x.f8, .slice A9 x.f9.length c9, .int .i64 x.f10, .bool x.f11]) (t := 157) ?hr ?_; (case hd => rfl); (case hg => rfl); (case hr => first | (go_simp; done) | (go_simp; rfl)); intro g2 hgg2 w2 hboxg2 hbg2; have BKg2 := As0.mk hboxg2; have HB2 := As0.mk hbg2; clear hboxg2 hbg2 hgg2) | ((with_reducible refine gdt (N := 4) rfl ?_); refine bxe ?hg (N := 4) ?hd (cs := #[.int .i64 0, .int .i64 0, .int .i64 0, .int .i64 0]) (t := 104) ?hr ?_; (case hd => rfl); (case hg => rfl); (case hr => first | (go_simp; done) | (go_simp; rfl)); intro g4 hgg4 w3 hboxg4 hbg4; have BKg4 := As0.mk hboxg4; have GE4 : As0 (w.heap.size ≤ g4) := ⟨by have := HB2.out.size; omega⟩; have HB3 := As0.mk (pwt HB2.out hbg4); replace BKg2 := As0.mk (bkb BKg2.out hbg4); have k7 : w3.cell? ⟨g2, 7, none⟩ = some (.int .i64 x.f7) := (bkc BKg2.out 7).trans rfl; have k8 : w3.cell? ⟨g2, 8, none⟩ = some (.int .i64 x.f8) := (bkc BKg2.out 8).trans rfl; have k9 : w3.cell? ⟨g2, 9, none⟩ = some (.slice A9 x.f9.length c9) := (bkc BKg2.out 9).trans rfl; clear hboxg4 hbg4 hgg4) | ((with_reducible refine gdt (N := 6) rfl ?_); refine bxe ?hg (N := 6) ?hd (cs := #[.int .i64 0, .int .i64 0, .int .i64 0, .int .i64 0]) (t := 104) ?hr ?_; (case hd => rfl); (case hg => rfl); (case hr => first | (go_simp; done) | (go_simp; rfl)); intro g6 hgg6 w4 hboxg6 hbg6; have BKg6 := As0.mk hboxg6; have GE6 : As0 (w.heap.size ≤ g6) := ⟨by have := HB3.out.size; omega⟩; have NE46 : As0 (g4 ≠ g6) := ⟨by have := blk_lt BKg4.out; omega⟩; have NE26 : As0 (g2 ≠ g6) := ⟨by have := blk_lt BKg2.out; omega⟩; replace BKg4 := As0.mk (bkb BKg4.out hbg6); replace BKg2 := As0.mk (bkb BKg2.out hbg6); have HB4 := As0.mk (pwt HB3.out hbg6); clear k7 k8 k9; have z0 : w4.cell? ⟨g6, 0, none⟩ = some (.int .i64 0) := (bkc BKg6.out 0).trans rfl; have z1 : w4.cell? ⟨g6, 1, none⟩ = some (.int .i64 0) := (bkc BKg6.out 1).trans rfl; have z2 : w4.cell? ⟨g6, 2, none⟩ = some (.int .i64 0) := (bkc BKg6.out 2).trans rfl; have z3 : w4.cell? ⟨g6, 3, none⟩ = some (.int .i64 0) := (bkc BKg6.out 3).trans rfl; have fz0 := bkz BKg6.out 0; have fz1 := bkz BKg6.out 1; have fz2 := bkz BKg6.out 2; have fz3 := bkz BKg6.out 3; clear hboxg6 hbg6 hgg6))
 clear z0 z1 z2 z3 fz0 fz1 fz2 fz3
 go_loopg [19] 0 (fun kq v19 w' => v19 = .int .i64 0 ∧ As0 (w'.heap[g2]? = some (.cells #[.int .i64 x.f0, .int .i64 x.f1, .slice A2 x.f2.length c2, .slice A3 x.f3.length c3, .slice A4 x.f4.length c4, .int .i64 x.f5, .int .i64 x.f6, .int .i64 x.f7, .int .i64 x.f8, .slice A9 x.f9.length c9, .int .i64 x.f10, .bool x.f11] 157 (0, 0))) ∧ As0 (w'.heap[g4]? = some (.cells #[.int .i64 0, .int .i64 0, .int .i64 0, .int .i64 0] 104 (0, 0))) ∧ As0 (w'.heap[g6]? = some (.cells #[.int .i64 x.f7, .int .i64 x.f8, .int .i64 8, .int .i64 (x.f9.length : Int)] 104 (0, 0))) ∧ As0 (Below w.heap.size w w'))
 case atStart => exact ⟨rfl, ⟨four_far BKg2.out NE26.out _ _ _ _⟩, ⟨four_far BKg4.out NE46.out _ _ _ _⟩, ⟨four_put BKg6.out _ _ _ _⟩, ⟨four_below HB4.out GE6.out _ _ _ _⟩⟩
 case round =>
  clear BKg2 BKg4 BKg6 HB4 HB3 HB2
  obtain ⟨rfl, BKg2, BKg4, BKg6, HB⟩ := hrel
  have k9 : wr.cell? ⟨g2, 9, none⟩ = some (.slice A9 x.f9.length c9) := (bkc BKg2.out 9).trans rfl
  go_wp2_with (go_at_call 56; (with_reducible refine (ContainsFunc_int.calls 324 #[.pointer (some ⟨g6, 0, none⟩)] (fun id => decide (256 ≤ id)) A9 c9 x.f9 _ (Kd.C_below HR.out HB.out) (pred_324 _ _ _ g6 _ BKg6.out)).mono ?_); rintro e w6 ⟨rfl, hb⟩; rw [HX.out]; have BKg4a := As0.mk (bkb BKg4.out hb); have BKg6a := As0.mk (bkb BKg6.out hb); have HB6 := As0.mk (pwt HB.out hb); clear hb; have k0 : w6.cell? ⟨g6, 0, none⟩ = some (.int .i64 x.f7) := (bkc BKg6a.out 0).trans rfl; have k1 : w6.cell? ⟨g6, 1, none⟩ = some (.int .i64 x.f8) := (bkc BKg6a.out 1).trans rfl; have k2 : w6.cell? ⟨g6, 2, none⟩ = some (.int .i64 8) := (bkc BKg6a.out 2).trans rfl; have k3 : w6.cell? ⟨g6, 3, none⟩ = some (.int .i64 (x.f9.length : Int)) := (bkc BKg6a.out 3).trans rfl; have z0 : w6.cell? ⟨g4, 0, none⟩ = some (.int .i64 0) := (bkc BKg4a.out 0).trans rfl; have z1 : w6.cell? ⟨g4, 1, none⟩ = some (.int .i64 0) := (bkc BKg4a.out 1).trans rfl; have z2 : w6.cell? ⟨g4, 2, none⟩ = some (.int .i64 0) := (bkc BKg4a.out 2).trans rfl; have z3 : w6.cell? ⟨g4, 3, none⟩ = some (.int .i64 0) := (bkc BKg4a.out 3).trans rfl; have fz0 := bkz BKg4a.out 0; have fz1 := bkz BKg4a.out 1; have fz2 := bkz BKg4a.out 2; have fz3 := bkz BKg4a.out 3)
  go_wp2
  refine bodyPost_ret (results_ct rfl _ _ g4 104 #[.int .i64 x.f7, .int .i64 x.f8, .int .i64 8, .int .i64 (x.f9.length : Int)] (0, 0) _ rfl (four_put BKg4a.out _ _ _ _) Tryz.underlying104 rfl (by kernel_rfl)) rfl ?_
  exact ⟨rfl, four_below HB6.out GE4.out _ _ _ _⟩
theorem info24' : (Tryz.prog.info? 24).map (fun i => (i.zero, i.size, i.bytes)) = some (some (.agg #[.int .i64 0, .int .i64 0, .int .i64 0, .slice none 0 0]), 4, 48) := by kernel_rfl
def Row4 (w : World) (g : Nat) (a b c d : Value) : Prop := ∃ cur : Array Value, w.heap[g]? = some (.cells cur 24 (0, 0)) ∧ cur[0]? = some a ∧ cur[1]? = some b ∧ cur[2]? = some c ∧ cur[3]? = some d
theorem Row4.of {w : World} {base : Nat} {v : Value} {a b c d : Value} (h : (Kd.raw 4).R 24 w base (fun _ => True) v (List.replicate (1 : Int).toNat [a, b, c, d])) : ∃ g cap, v = .slice (some ⟨g, 0, none⟩) 1 cap ∧ base ≤ g ∧ Row4 w g a b c d := by
 obtain ⟨_, inner, ho, hr⟩ := h
 have h0 := (hr.2 0 _ rfl).1
 rcases ho.2 with ⟨_, h1⟩ | ⟨g, cap, cur, hv, hb, hh, hn, hm, hs, ht⟩
 ·cases h1
 ·refine ⟨g, cap, hv, hb, cur, hh, ?_⟩
  have hsz : (List.replicate (1 : Int).toNat [a, b, c, d]).length * (Kd.raw 4).sz = 4 := rfl
  rw [hsz] at ht
  have hz : inner.take 4 = [a, b, c, d] := by simpa [Kd.raw] using h0
  rw [← ht, List.take_take] at hz
  simp only [Nat.min_self] at hz
  have k : ∀ j, j < 4 → cur[j]? = [a, b, c, d][j]? := fun j hj => by
   rw [← hz, List.getElem?_take, if_pos hj, Array.getElem?_toList]
  exact ⟨k 0 (by decide), k 1 (by decide), k 2 (by decide), k 3 (by decide)⟩
theorem Row4.below {w w1 : World} {g : Nat} {a b c d : Value} (h : Row4 w g a b c d) (hb : Below w.heap.size w w1) : Row4 w1 g a b c d := by
 obtain ⟨cur, h0, h1⟩ := h
 exact ⟨cur, bkb h0 hb, h1⟩
theorem Row4.cell {w : World} {g : Nat} {a b c d : Value} (h : Row4 w g a b c d) : w.cell? ⟨g, 0, none⟩ = some a ∧ w.cell? ⟨g, 1, none⟩ = some b ∧ w.cell? ⟨g, 2, none⟩ = some c ∧ w.cell? ⟨g, 3, none⟩ = some d ∧ w.frozen? ⟨g, 0, none⟩ = false ∧ w.frozen? ⟨g, 1, none⟩ = false ∧ w.frozen? ⟨g, 2, none⟩ = false ∧ w.frozen? ⟨g, 3, none⟩ = false := by
 obtain ⟨cur, h0, h1, h2, h3, h4⟩ := h
 exact ⟨(bkc h0 0).trans h1, (bkc h0 1).trans h2, (bkc h0 2).trans h3, (bkc h0 3).trans h4, bkz h0 0, bkz h0 1, bkz h0 2, bkz h0 3⟩
theorem Row4.put {w : World} {g : Nat} {a b c d : Value} (h : Row4 w g a b c d) (v0 v1 v2 v3 : Value) : Row4 ((((w.setCell ⟨g, 0, none⟩ v0).setCell ⟨g, 1, none⟩ v1).setCell ⟨g, 2, none⟩ v2).setCell ⟨g, 3, none⟩ v3) g v0 v1 v2 v3 := by
 obtain ⟨cur, h0, h1, h2, h3, h4⟩ := h
 have l0 := (Array.getElem?_eq_some_iff.1 h1).1
 have l1 := (Array.getElem?_eq_some_iff.1 h2).1
 have l2 := (Array.getElem?_eq_some_iff.1 h3).1
 have l3 := (Array.getElem?_eq_some_iff.1 h4).1
 refine ⟨_, blk_put (blk_put (blk_put (blk_put h0 0 v0 rfl) 1 v1 rfl) 2 v2 rfl) 3 v3 rfl, ?_, ?_, ?_, ?_⟩ <;> simp [Array.getElem?_setIfInBounds, l0, l1, l2, l3]
def canX : S68 := ⟨4, 2, [], [], [], 0, 0, 2, 1, [9], 0, false⟩
theorem Row4.S {α : Type} {d : Kd α} {e base : Nat} {w : World} {ok : Nat → Prop} {v : Value} {xs : List α} {g : Nat} {a b c dd : Value} (h : Kd.S d e w base ok v xs) (hb : Row4 w g a b c dd) (ht : ∀ q, q ∈ e :: d.E → q ≠ 24) (v0 v1 v2 v3 : Value) :
  Kd.S d e ((((w.setCell ⟨g, 0, none⟩ v0).setCell ⟨g, 1, none⟩ v1).setCell ⟨g, 2, none⟩ v2).setCell ⟨g, 3, none⟩ v3) base ok v xs := by
 obtain ⟨cur, h0, _⟩ := hb
 exact Kd.S_set (Kd.S_set (Kd.S_set (Kd.S_set h h0 ht 0 v0) (blk_put h0 0 v0 rfl) ht 1 v1) (blk_put (blk_put h0 0 v0 rfl) 1 v1 rfl) ht 2 v2) (blk_put (blk_put (blk_put h0 0 v0 rfl) 1 v1 rfl) 2 v2 rfl) ht 3 v3
theorem ta_over (x : Value) (w : World) : (Instr.typeAssert (.iface 157 x) 117 120 true).run Tryz.prog w = .ok (.tuple #[.agg #[.int .i64 0, .int .i64 0, .slice none 0 0, .slice none 0 0, .slice none 0 0, .int .i64 0, .int .i64 0, .int .i64 0, .int .i64 0, .slice none 0 0, .int .i64 0, .bool false], .bool false]) w := by kernel_rfl
theorem met_shape (x : Value) (w : World) : (method 455 157 x "diorama/item.shape").run Tryz.prog w = .ok (323, x) w := by kernel_rfl
theorem met_draw (x : Value) (w : World) : (method 455 157 x "diorama/item.draw").run Tryz.prog w = .ok (322, x) w := by kernel_rfl
theorem enters_323 : ∀ (args : Array Value) (W : World), (callFunc 323 args).run Tryz.prog W = .ok (.enter 323 args) W := enters_of Tryz.func323 (by kernel_rfl) rfl
theorem enters_322 : ∀ (args : Array Value) (W : World), (callFunc 322 args).run Tryz.prog W = .ok (.enter 322 args) W := enters_of Tryz.func322 (by kernel_rfl) rfl
theorem canReady : item_ready.f [canX] 4 = some (0, 0) := by decide +kernel
theorem canOrder : item_order.f [canX] 0 = some [0] := by decide +kernel
theorem canTurned : item_turned.f 2 1 8 [[9, 9]] 0 false = some (2, 1, 8, [[9, 9]]) := by decide +kernel
def render_walk.T26 : Bool × List (List Nat × List Nat) := (true, [([], []), ([], []), ([], []), ([], []), ([2, 3], [2, 3]), ([], []), ([5], [5]), ([], []), ([7], [7]), ([4, 6, 8, 4], [4, 6, 8]), ([0, 1, 0, 1, 2, 3, 4, 5, 6, 7, 8, 9], [0, 1]), ([10, 9, 9, 0, 1, 2, 3, 4, 5, 6, 7, 8, 9], [9, 10])])
def render_walk.B26 : List Nat := [0, 0, 0, 0, 12, 0, 32, 0, 128, 508, 1023, 2047]
theorem render_walk.tab26 : rtab .any (opsOf Tryz.f32 26) = render_walk.T26 := by kernel_rfl
theorem render_walk.bits26 : waitsOk render_walk.T26.2 render_walk.B26 = true := by kernel_rfl
set_option maxHeartbeats 16000000 in
set_option maxRecDepth 100000 in
theorem render_canvas (A0 : Option Addr) (c0 : Nat) (w : World) (hr0 : Kd.C k68 w A0 [canX].length [canX]) (hc0 : [canX].length ≤ c0) :
  Calls Tryz.prog 32 #[.slice A0 1 c0, .int .i64 4] w fun e w' => ∃ v3_ : Value, e = .returned (.tuple #[.agg #[.int .i64 2, .int .i64 1, .int .i64 8, v3_], .int .i64 0]) ∧ Kd.S (Kd.slice 3 (Kd.int .i64)) 39 w' w.heap.size (fun _ => True) v3_ [[9, 9]] ∧ Below w.heap.size w w' := by
 have HR := As0.mk hr0
 have HC := As0.mk hc0
 clear hr0 hc0
 have hu24 := Tryz.underlying24
 have hu68 := Tryz.underlying68
 have hu104 := Tryz.underlying104
 go_enter Tryz.func32, Tryz.ntmps32
 go_wp2_with (first | ((with_reducible refine gdt (N := 4) rfl ?_); refine bxe ?hg (N := 4) ?hd (cs := #[.int .i64 0, .int .i64 0, .int .i64 0, .slice none 0 0]) (t := 24) ?hr ?_; (case hd => rfl); (case hg => rfl); (case hr => first | (go_simp; done) | (go_simp; rfl)); intro g4 hgg4 w1 hboxg4 hbg4; have BKg4 := As0.mk hboxg4; have GE4 : As0 (w.heap.size ≤ g4) := ⟨by omega⟩; have HB1 := As0.mk hbg4; clear hboxg4 hbg4 hgg4) | (go_at_call 63; (refine (item_ready.calls A0 c0 [canX] 4 0 0 _ (Kd.C_below HR.out HB1.out) HC.out canReady).mono ?_); rintro e w2 ⟨rfl, hb⟩; have HB2 := As0.mk (pwt HB1.out hb); replace BKg4 := As0.mk (bkb BKg4.out hb); clear hb) | ((with_reducible refine gdt (N := 33) rfl ?_); refine Kd.R_make (Kd.raw 4) (w0 := w) w.heap.size 24 rfl (N := 33) rfl 49 _ _ rfl (1 : Int) rfl rfl Tryz.underlying49 (.agg #[.int .i64 0, .int .i64 0, .int .i64 0, .slice none 0 0]) 48 info24' rfl (by decide) (by decide) [.int .i64 0, .int .i64 0, .int .i64 0, .slice none 0 0] (ok := fun _ => True) (okp := fun _ => True) ⟨rfl, rfl, by decide⟩ (fun _ hk => hk) trivial (by decide) (by decide) HB2.out HB2.out.size ?_; intro v3 w3 hv3 hb3 hg3 hat; obtain ⟨gh, ch, rfl, hgh, hr4⟩ := Row4.of hv3; have NE4 : As0 (g4 ≠ gh) := ⟨by obtain ⟨b, hb1, hb2⟩ := hat; simp [Value.ownBlock] at hb1; have := blk_lt BKg4.out; omega⟩; have HRW := As0.mk hr4; have GEH : As0 (w.heap.size ≤ gh) := ⟨hgh⟩; have HB3 := As0.mk hb3; replace BKg4 := As0.mk (blk_grown BKg4.out hg3 (by simp)); clear hv3 hb3 hg3 hr4 hgh hat) | (go_at_call 64; (refine (item_order.calls A0 c0 [canX] 0 [0] _ (Kd.C_below HR.out HB3.out) HC.out canOrder).mono ?_); rintro e w5 ⟨vo, rfl, hvo, hb⟩; obtain ⟨Ao, co, rfl, _, hco⟩ := Kd.R_reads hvo; have HCO := As0.mk hco; have HB5 := As0.mk (pwt HB3.out hb); replace BKg4 := As0.mk (bkb BKg4.out hb); replace HRW := As0.mk (HRW.out.below hb); clear hvo hb hco))
 go_loopg [38] 1 (fun kq v38 w' => ∃ (i : Int), v38 = .int .i64 i ∧ As0 (0 ≤ i ∧ i + kq = 1) ∧ As0 (Below w.heap.size w w') ∧ As0 (Below w5.heap.size w5 w' ∨ True) ∧ As0 (w'.heap[g4]? = some (.cells #[.int .i64 0, .int .i64 0, .int .i64 0, .slice none 0 0] 24 (0, 0))) ∧ As0 (kq = 1 → w' = w5) ∧ As0 (kq = 0 → ∃ v3 : Value, Row4 w' gh (.int .i64 2) (.int .i64 1) (.int .i64 8) v3 ∧ Kd.S (Kd.slice 3 (Kd.int .i64)) 39 w' w.heap.size (fun _ => True) v3 [[9, 9]]))
 case atStart => exact ⟨0, rfl, ⟨by omega, by omega⟩, HB5, ⟨.inr trivial⟩, BKg4, ⟨fun _ => rfl⟩, ⟨fun h => by omega⟩⟩
 case round =>
  obtain ⟨i, rfl, HI, HB, _, BKg4, HS1, HS0⟩ := hrel
  cases gk with
  | zero =>
   have hge : decide (i < 1) = false := by have := HI.out; simp; omega
   obtain ⟨v3, hrw, hs⟩ := HS0.out rfl
   obtain ⟨A3_, c3_, rfl⟩ := Kd.S_slice hs
   obtain ⟨q0, q1, q2, q3, _⟩ := hrw.cell
   have HS := As0.mk hs
   clear hs hrw HS0 HS1
   have z0 : wr.cell? ⟨g4, 0, none⟩ = some (.int .i64 0) := (bkc BKg4.out 0).trans rfl; have z1 : wr.cell? ⟨g4, 1, none⟩ = some (.int .i64 0) := (bkc BKg4.out 1).trans rfl; have z2 : wr.cell? ⟨g4, 2, none⟩ = some (.int .i64 0) := (bkc BKg4.out 2).trans rfl; have z3 : wr.cell? ⟨g4, 3, none⟩ = some (.slice none 0 0) := (bkc BKg4.out 3).trans rfl
   have fz0 := bkz BKg4.out 0; have fz1 := bkz BKg4.out 1; have fz2 := bkz BKg4.out 2; have fz3 := bkz BKg4.out 3
   go_wp2
   refine bodyPost_ret (results_ct rfl _ _ g4 24 #[.int .i64 2, .int .i64 1, .int .i64 8, .slice A3_ [[9, 9]].length c3_] (0, 0) _ rfl (four_put BKg4.out _ _ _ _) Tryz.underlying24 rfl (by kernel_rfl)) rfl ?_
   exact ⟨_, rfl, four_S HS.out BKg4.out (by decide) _ _ _ _, four_below HB.out GE4.out _ _ _ _⟩
  | succ kq1 =>
   have hk1 : kq1 = 0 := by have := HI.out; omega
   subst hk1
   have hi : i = 0 := by have := HI.out; omega
   subst hi
   have hwr := HS1.out rfl
   subst hwr
   clear HS1 HS0 HI
   obtain ⟨ado, e1, hco⟩ := ReadsInt.at_ (Kd.reads_of_C (d := 0) HCO.out : ReadsInt _ .i64 Ao 1 [0]) 0 (by decide) (by decide)
   cases e1
   obtain ⟨ad, A2, c2, A3, c3, A4, c4, A9, c9, e0, hx0, hx1, hx2, hx3, hx4, hx5, hx6, hx7, hx8, hx9, hx10, hx11, g1, g2, g3, g4_, g5, g6, g7, g8⟩ := at_T68 (Kd.C_below HR.out HB.out) 0 (by decide) (by decide)
   cases e0
   have HX := As0.mk g8
   have e12 : ad.add ((0 : Int).toNat * 12) = ad := Addr.add_zero' ad
   rw [e12] at hx0 hx1 hx2 hx3 hx4 hx5 hx6 hx7 hx8 hx9 hx10 hx11
   have e13 : ado.add (Int.toNat 0) = ado := Addr.add_zero' ado
   rw [e13] at hco
   clear e12 e13
   change _ = some (Value.int .i64 0) at hco
   clear g1 g2 g3 g4_ g5 g6 g7 g8
   change _ = some (Value.int .i64 4) at hx0
   change _ = some (Value.int .i64 2) at hx1
   change _ = some (Value.slice A2 0 c2) at hx2
   change _ = some (Value.slice A3 0 c3) at hx3
   change _ = some (Value.slice A4 0 c4) at hx4
   change _ = some (Value.int .i64 0) at hx5
   change _ = some (Value.int .i64 0) at hx6
   change _ = some (Value.int .i64 2) at hx7
   change _ = some (Value.int .i64 1) at hx8
   change _ = some (Value.slice A9 1 c9) at hx9
   change _ = some (Value.int .i64 0) at hx10
   change _ = some (Value.bool false) at hx11
   obtain ⟨wz, hwz⟩ : ∃ z, z = wr := ⟨_, rfl⟩
   subst hwz
   go_wp2
   go_loopg [12, 13, 49] 0 (fun kq v12 v13 v49 w' => v12 = .slice none 0 0 ∧ v13 = .slice none 0 0 ∧ v49 = .int .i64 0 ∧ w' = wz.alloc (.cells #[.int .i64 4, .int .i64 2, .slice A2 0 c2, .slice A3 0 c3, .slice A4 0 c4, .int .i64 0, .int .i64 0, .int .i64 2, .int .i64 1, .slice A9 1 c9, .int .i64 0, .bool false] 68))
   case atStart => exact ⟨rfl, rfl, rfl, rfl⟩
   case round =>
    obtain ⟨rfl, rfl, rfl, hwr⟩ := hrel
    subst hwr
    have hin1 := met_shape
    have hin3 := enters_323
    have hta := ta_over
    have hin2 := met_draw
    have hin4 := enters_322
    go_wp2_with (first | (go_at_call 79; (refine (made_over canX rfl A2 c2 A3 c3 A4 c4 A9 c9 _).mono ?_); rintro e w6 ⟨rfl, hb⟩; have BK6 := As0.mk (bkb (heap_alloc_new wz (.cells #[.int .i64 4, .int .i64 2, .slice A2 0 c2, .slice A3 0 c3, .slice A4 0 c4, .int .i64 0, .int .i64 0, .int .i64 2, .int .i64 1, .slice A9 1 c9, .int .i64 0, .bool false] 68)) hb); have HB6 := As0.mk (pwt (bwa (Below.refl _ _) _) hb); clear hb) | (go_at_call 323; (refine (shape_canvas canX A2 c2 A3 c3 A4 c4 A9 c9 none 0 _ (Kd.C_below HX.out HB6.out) (by decide)).mono ?_); rintro e w7 ⟨rfl, hb⟩; have BK7 := As0.mk (bkb BK6.out hb); have HB7 := As0.mk (pwt HB6.out hb); clear hb))
    have BKx := As0.mk (bkd (bka BK7.out (.cells #[.int .i64 canX.f7, .int .i64 canX.f8, .int .i64 8, .int .i64 (canX.f9.length : Int)] 104)))
    have HWx := As0.mk (bwd (bwa HB7.out (.cells #[.int .i64 canX.f7, .int .i64 canX.f8, .int .i64 8, .int .i64 (canX.f9.length : Int)] 104)))
    have HBx := As0.mk (pwt HB.out HWx.out)
    have BKg4x := As0.mk (bkb BKg4.out HWx.out)
    have HRWx := As0.mk (HRW.out.below HWx.out)
    have HCx := As0.mk (Kd.C_below HX.out HWx.out)
    refine start_ (n := 12) (S := fun w' => w'.cell? ⟨wz.heap.size, 10, none⟩ = some (.int .i64 0) ∧ w'.cell? ⟨wz.heap.size, 11, none⟩ = some (.bool false)) (ds := [11]) #[false, false, false, false, false, false, false, false, false, false, false, false] (by kernel_rfl) rfl rfl ⟨(bkc BKx.out 10).trans rfl, (bkc BKx.out 11).trans rfl⟩ (fun hHeld => ?_); refine with_tabW render_walk.tab26 render_walk.bits26 (fun HT_ HW_ => ?_)
    generalize ((w7.alloc (.cells #[.int .i64 canX.f7, .int .i64 canX.f8, .int .i64 8, .int .i64 (canX.f9.length : Int)] 104)).drew) = wd at *
    refine pure_ (i := 0) (N := some 89) (v := ?_) (a' := ?_) #[true, false, false, false, false, false, false, false, false, false, false, false] rfl rfl (any_of HT_.out (by kernel_rfl)) (fun _ _ _ h => h) (Or.inl ⟨by rfl, ?_⟩) ?_ ?_
    rotate_left
    ·intro w'
     go_simp
     with_reducible rfl
    rotate_left
    ·simp only [Act.put, List.setIfInBounds_toArray, List.set_cons_zero, List.set_cons_succ, i64_w, i32_w]
     rfl
    refine pure_ (i := 1) (N := some 90) (v := ?_) (a' := ?_) #[true, true, false, false, false, false, false, false, false, false, false, false] rfl rfl (any_of HT_.out (by kernel_rfl)) (fun _ _ _ h => h) (Or.inl ⟨by rfl, ?_⟩) ?_ ?_
    rotate_left
    ·intro w'
     go_simp
     with_reducible rfl
    rotate_left
    ·simp only [Act.put, List.setIfInBounds_toArray, List.set_cons_zero, List.set_cons_succ, i64_w, i32_w]
     rfl
    refine pure_ (i := 2) (N := some 91) (v := ?_) (a' := ?_) #[true, true, true, false, false, false, false, false, false, false, false, false] rfl rfl (any_of HT_.out (by kernel_rfl)) (fun _ _ _ h => h) (Or.inl ⟨by rfl, ?_⟩) ?_ ?_
    rotate_left
    ·intro w'
     go_simp
     with_reducible rfl
    rotate_left
    ·simp only [Act.put, List.setIfInBounds_toArray, List.set_cons_zero, List.set_cons_succ, i64_w, i32_w]
     rfl
    refine pure_ (i := 3) (N := some 92) (v := ?_) (a' := ?_) #[true, true, true, true, false, false, false, false, false, false, false, false] rfl rfl (any_of HT_.out (by kernel_rfl)) (fun _ _ _ h => h) (Or.inl ⟨by rfl, ?_⟩) ?_ ?_
    rotate_left
    ·intro w'
     go_simp
     with_reducible rfl
    rotate_left
    ·simp only [Act.put, List.setIfInBounds_toArray, List.set_cons_zero, List.set_cons_succ, i64_w, i32_w]
     rfl
    refine pure_ (i := 5) (N := some 94) (v := ?_) (a' := ?_) #[true, true, true, true, false, true, false, false, false, false, false, false] rfl rfl (any_of HT_.out (by kernel_rfl)) (fun _ _ _ h => h) (Or.inl ⟨by rfl, ?_⟩) ?_ ?_
    rotate_left
    ·intro w'
     go_simp
     with_reducible rfl
    rotate_left
    ·simp only [Act.put, List.setIfInBounds_toArray, List.set_cons_zero, List.set_cons_succ, i64_w, i32_w]
     rfl
    refine pure_ (i := 7) (N := some 96) (v := ?_) (a' := ?_) #[true, true, true, true, false, true, false, true, false, false, false, false] rfl rfl (any_of HT_.out (by kernel_rfl)) (fun _ _ _ h => h) (Or.inl ⟨by rfl, ?_⟩) ?_ ?_
    rotate_left
    ·intro w'
     go_simp
     with_reducible rfl
    rotate_left
    ·simp only [Act.put, List.setIfInBounds_toArray, List.set_cons_zero, List.set_cons_succ, i64_w, i32_w]
     rfl
    refine take_ (i := 6) (N := some 95) (v := ?_) (a' := ?_) #[true, true, true, true, false, true, true, true, false, false, false, false] rfl rfl (take_ofW HT_.out HW_.out (by kernel_rfl)) (fun _ _ _ h => h) (Or.inl ⟨by rfl, ?_⟩) hHeld ?_ ?_
    rotate_left
    ·rintro w' ⟨s0, s1⟩
     go_simp
     with_reducible rfl
    rotate_left
    ·simp only [Act.put, List.setIfInBounds_toArray, List.set_cons_zero, List.set_cons_succ, i64_w, i32_w]
     rfl
    refine take_ (i := 8) (N := some 97) (v := ?_) (a' := ?_) #[true, true, true, true, false, true, true, true, true, false, false, false] rfl rfl (take_ofW HT_.out HW_.out (by kernel_rfl)) (fun _ _ _ h => h) (Or.inl ⟨by rfl, ?_⟩) hHeld ?_ ?_
    rotate_left
    ·rintro w' ⟨s0, s1⟩
     go_simp
     with_reducible rfl
    rotate_left
    ·simp only [Act.put, List.setIfInBounds_toArray, List.set_cons_zero, List.set_cons_succ, i64_w, i32_w]
     rfl
    refine one_ (i := 4) (N := some 93) #[true, true, true, true, true, true, true, true, true, false, false, false] rfl rfl (one_of HT_.out (by kernel_rfl)) (by decide) (fun K hK => ?_)
    refine call_ 322 #[.agg #[.int .i64 canX.f0, .int .i64 canX.f1, .slice A2 canX.f2.length c2, .slice A3 canX.f3.length c3, .slice A4 canX.f4.length c4, .int .i64 canX.f5, .int .i64 canX.f6, .int .i64 canX.f7, .int .i64 canX.f8, .slice A9 canX.f9.length c9, .int .i64 canX.f10, .bool canX.f11], .slice none 0 0] (by rfl) rfl (by go_simp) ?_
    refine (draw_canvas canX A2 c2 A3 c3 A4 c4 A9 c9 none 0 _ HCx.out (by decide)).mono ?_
    rintro e w8 ⟨v8, rfl, hs8, hb8⟩
    refine ⟨_, rfl, ?_⟩
    have hcp : canvasP canX = [[9, 9]] := by decide +kernel
    rw [hcp] at hs8
    obtain ⟨A8, c8, rfl, hl8, hc8⟩ := Kd.S_reads hs8
    have HC8 := As0.mk (And.intro hl8 hc8)
    have BK8 := As0.mk (bkb BKx.out hb8)
    have BKg48 := As0.mk (bkb BKg4x.out hb8)
    have HRW8 := As0.mk (HRWx.out.below hb8)
    have HB8 := As0.mk (pwt HBx.out hb8)
    clear hs8 hb8 hl8 hc8 hcp
    refine hK.out _ _ ⟨(bkc BK8.out 10).trans rfl, (bkc BK8.out 11).trans rfl⟩ (fun hHeld => ?_)
    clear hK K
    refine norm_ (a' := ?_) ?_ ?_
    rotate_left
    ·show Act.put _ (some 93) _ = _
     simp only [Act.put, List.setIfInBounds_toArray, List.set_cons_zero, List.set_cons_succ, i64_w, i32_w]
     rfl
    refine one_ (i := 9) (N := some 98) #[true, true, true, true, true, true, true, true, true, true, false, false] rfl rfl (one_of HT_.out (by kernel_rfl)) (by decide) (fun K hK => ?_)
    refine goes_ Tryz.func49 (by kernel_rfl) rfl #[.agg #[.int .i64 2, .int .i64 1, .int .i64 8, .slice A8 1 c8], .int .i64 0, .bool false] (by rfl) rfl rfl (by (try simp only [List.map_toArray, List.map_cons, List.map_nil]); first | done | rfl) ?_
    refine (item_turned.calls 2 1 8 A8 c8 [[9, 9]] 0 false 2 1 8 [[9, 9]] _ HC8.out.2 HC8.out.1 canTurned).mono ?_
    rintro e w9 ⟨v9, rfl, hs9, hb9⟩
    refine ⟨_, rfl, ?_⟩
    obtain ⟨A9_, c9_, rfl⟩ := Kd.S_slice hs9
    have HS9 := As0.mk (Kd.S_lower hs9 HB8.out.size)
    have BK9 := As0.mk (bkb BK8.out hb9)
    have BKg49 := As0.mk (bkb BKg48.out hb9)
    have HRW9 := As0.mk (HRW8.out.below hb9)
    have HB9 := As0.mk (pwt HB8.out hb9)
    clear hs9 hb9
    refine hK.out _ _ ⟨(bkc BK9.out 10).trans rfl, (bkc BK9.out 11).trans rfl⟩ (fun hHeld => ?_)
    clear hK K
    refine norm_ (a' := ?_) ?_ ?_
    rotate_left
    ·show Act.put _ (some 98) _ = _
     simp only [Act.put, List.setIfInBounds_toArray, List.set_cons_zero, List.set_cons_succ, i64_w, i32_w]
     rfl
    refine pure_ (i := 10) (N := some 99) (v := ?_) (a' := ?_) #[true, true, true, true, true, true, true, true, true, true, true, false] rfl rfl (any_of HT_.out (by kernel_rfl)) (fun _ _ _ h => h) (Or.inl ⟨by rfl, ?_⟩) ?_ ?_
    rotate_left
    ·intro w'
     go_simp
     with_reducible rfl
    rotate_left
    ·simp only [Act.put, List.setIfInBounds_toArray, List.set_cons_zero, List.set_cons_succ, i64_w, i32_w]
     rfl
    refine last_ (i := 11) (N := none) #[true, true, true, true, true, true, true, true, true, true, true, true] rfl rfl (one_of HT_.out (by kernel_rfl)) (by decide) (fun K hK => ?_)
    obtain ⟨p0, p1, p2, p3, f0, f1, f2, f3⟩ := HRW9.out.cell
    refine skip_ (w1 := ?_) (by rfl) rfl ?_ ?_
    rotate_left
    ·go_simp
     rfl
    refine hK.out _ _ ?_
    clear hK K
    refine done_ (done_of HT_.out (by kernel_rfl)) ?_
    go_wp2
    go_roundg 0
    case measure => omega
    case rel => exact ⟨1, rfl, ⟨by omega, by omega⟩, ⟨four_below HB9.out GEH.out _ _ _ _⟩, ⟨.inr trivial⟩, ⟨four_far BKg49.out NE4.out _ _ _ _⟩, ⟨fun h => by omega⟩, ⟨fun _ => ⟨_, HRW9.out.put _ _ _ _, Row4.S HS9.out HRW9.out (by decide) _ _ _ _⟩⟩⟩
theorem R_row2 {W : World} {h1 : Nat} {xs : List Int} (hb : W.heap[h1]? = some (.cells (xs.map (Value.int .i64)).toArray 3 (0, 0))) (hn : xs.length ≤ 1000) : Kd.C (Kd.int .i64) W (some ⟨h1, 0, none⟩) xs.length xs := by
 refine ⟨rfl, by omega, fun _ => ⟨_, rfl, fun j p hj => ⟨[.int .i64 p], rfl, rfl, fun i u hu => ?_⟩⟩⟩
 cases i with
 | succ i => simp at hu
 | zero =>
  have hu : u = .int .i64 p := by simpa using hu.symm
  subst hu
  rw [add_plain]
  refine (bkc hb _).trans ?_
  simp [Kd.int, Kd.scalar, hj]
theorem C_img {W : World} {h1 h2 : Nat} {xs : List Int} (hb1 : W.heap[h1]? = some (.cells (xs.map (Value.int .i64)).toArray 3 (0, 0))) (hn : xs.length ≤ 1000) (hb2 : W.heap[h2]? = some (.cells #[.slice (some ⟨h1, 0, none⟩) xs.length xs.length] 39 (0, 0))) :
  Kd.C (Kd.slice 3 (Kd.int .i64)) W (some ⟨h2, 0, none⟩) 1 [xs] := by
 refine ⟨rfl, by decide, fun _ => ⟨_, rfl, fun j p hj => ?_⟩⟩
 cases j with
 | succ j => simp at hj
 | zero =>
  have hj : p = xs := by simpa using hj.symm
  subst hj
  refine ⟨[.slice (some ⟨h1, 0, none⟩) p.length p.length], rfl, ⟨some ⟨h1, 0, none⟩, p.length, rfl, Nat.le_refl _, R_row2 hb1 hn⟩, fun i u hu => ?_⟩
  cases i with
  | succ i => simp at hu
  | zero =>
   have hu : u = .slice (some ⟨h1, 0, none⟩) p.length p.length := by simpa using hu.symm
   subst hu
   rw [add_plain]
   exact (bkc hb2 0).trans rfl
theorem C_can {W : World} {h0 h1 : Nat} (hb0 : W.heap[h0]? = some (.cells #[.int .i64 9] 3 (0, 0))) (hb1 : W.heap[h1]? = some (.cells #[.int .i64 4, .int .i64 2, .slice none 0 0, .slice none 0 0, .slice none 0 0, .int .i64 0, .int .i64 0, .int .i64 2, .int .i64 1, .slice (some ⟨h0, 0, none⟩) 1 1, .int .i64 0, .bool false] 68 (0, 0))) :
  Kd.C k68 W (some ⟨h1, 0, none⟩) [canX].length [canX] := by
 refine ⟨rfl, by decide, fun _ => ⟨_, rfl, fun j p hj => ?_⟩⟩
 cases j with
 | succ j => simp at hj
 | zero =>
  have hj : p = canX := by simpa using hj.symm
  subst hj
  have hnil : ∀ k : IntKind, (Kd.int k).C W none 0 [] := fun k => ⟨rfl, by decide, fun h => by omega⟩
  refine ⟨_, rfl, k68_mk W canX (A2 := none) (c2 := 0) (Nat.le_refl _) (hnil _) (A3 := none) (c3 := 0) (Nat.le_refl _) (hnil _) (A4 := none) (c4 := 0) (Nat.le_refl _) (hnil _) (A9 := some ⟨h0, 0, none⟩) (c9 := 1) (Nat.le_refl _) (R_row2 (xs := [9]) hb0 (by decide)), fun i u hu => ?_⟩
  rw [add_plain]
  refine (bkc hb1 _).trans ?_
  rw [show (0 * k68.sz + i) = i by omega]
  rw [← hu, ← List.getElem?_toArray]
  rfl
set_option maxHeartbeats 16000000 in
set_option maxRecDepth 100000 in
theorem awake_true (w : World) : Calls Tryz.prog 16 #[] w fun e w' => e = .returned (.bool true) ∧ Below w.heap.size w w' := by
 have hu24 := Tryz.underlying24
 go_enter Tryz.func16, Tryz.ntmps16
 go_upto_region 5 with (first | (go_at_call 32; ((refine (render_canvas (some ⟨w.heap.size + 1, 0, none⟩) 1 _ (C_can (h0 := w.heap.size) (h1 := w.heap.size + 1) (bka (heap_alloc_new w _) _) (by (have := heap_alloc_new (w.alloc (.cells #[.int .i64 9] 3)) (.cells #[.int .i64 4, .int .i64 2, .slice none 0 0, .slice none 0 0, .slice none 0 0, .int .i64 0, .int .i64 0, .int .i64 2, .int .i64 1, .slice (some ⟨w.heap.size, 0, none⟩) 1 1, .int .i64 0, .bool false] 68); simpa [World.size_alloc] using this))) (Nat.le_refl _)).mono ?_); rintro e w1 ⟨v1, rfl, hs, hb⟩; obtain ⟨A1, c1, rfl, hl, hcc⟩ := Kd.S_reads hs; have HC1 := As0.mk (And.intro hl hcc); have HB1 := As0.mk (pwt (bwa (bwa (Below.refl _ _) _) _) hb); clear hs hb hl hcc)) | (go_at_call 15; ((refine (r00_EqImage.calls 10 2 1 8 A1 c1 [[9, 9]] 2 1 8 (some ⟨w1.heap.size + 2, 0, none⟩) 1 [[9, 9]] true _ ?c1 HC1.out.1 ?c2 (Nat.le_refl _) (by decide +kernel)).mono ?_); (case c1 => exact Kd.C_alloc (Kd.C_alloc (Kd.C_alloc HC1.out.2 _) _) _); (case c2 => exact C_img (xs := [9, 9]) (h1 := w1.heap.size + 1) (h2 := w1.heap.size + 2) (by (have := bka (heap_alloc_new (w1.alloc (.cells #[.int .i64 2, .int .i64 1, .int .i64 8, .slice A1 [[9, 9]].length c1] 24)) (.cells #[.int .i64 9, .int .i64 9] 3)) (.cells #[.slice (some ⟨w1.heap.size + 1, 0, none⟩) 2 2] 39); simpa [World.size_alloc] using this)) (by decide) (by (have := heap_alloc_new ((w1.alloc (.cells #[.int .i64 2, .int .i64 1, .int .i64 8, .slice A1 [[9, 9]].length c1] 24)).alloc (.cells #[.int .i64 9, .int .i64 9] 3)) (.cells #[.slice (some ⟨w1.heap.size + 1, 0, none⟩) 2 2] 39); simpa [World.size_alloc] using this))); rintro e w2 ⟨rfl, hb⟩; have HB2 := As0.mk (pwt HB1.out (pwt (bwa (bwa (bwa (Below.refl _ _) _) _) _) hb)); clear hb)) | (go_at_call 13; ((refine (item_Turn.calls 2 1 8 (some ⟨w2.heap.size + 1, 0, none⟩) 1 [[1, 2]] 0 true 2 1 8 [[2, 1]] 0 _ ?d1 (Nat.le_refl _) (by decide +kernel)).mono ?_); (case d1 => exact C_img (xs := [1, 2]) (h1 := w2.heap.size) (h2 := w2.heap.size + 1) (by (have := bka (heap_alloc_new w2 (.cells #[.int .i64 1, .int .i64 2] 3)) (.cells #[.slice (some ⟨w2.heap.size, 0, none⟩) 2 2] 39); simpa [World.size_alloc] using this)) (by decide) (by (have := heap_alloc_new (w2.alloc (.cells #[.int .i64 1, .int .i64 2] 3)) (.cells #[.slice (some ⟨w2.heap.size, 0, none⟩) 2 2] 39); simpa [World.size_alloc] using this))); rintro e w3 ⟨v3, rfl, hs, hb⟩; obtain ⟨A3, c3, rfl, hl, hcc⟩ := Kd.S_reads hs; have HC3 := As0.mk (And.intro hl hcc); have HB3 := As0.mk (pwt HB2.out (pwt (bwa (bwa (Below.refl _ _) _) _) hb)); clear hs hb hl hcc)))
 go_wp2_with (first | (go_at_call 15; ((refine (r00_EqImage.calls 10 2 1 8 A3 c3 [[2, 1]] 2 1 8 (some ⟨w3.heap.size + 2, 0, none⟩) 1 [[2, 1]] true _ ?e1 HC3.out.1 ?e2 (Nat.le_refl _) (by decide +kernel)).mono ?_); (case e1 => exact Kd.C_alloc (Kd.C_alloc (Kd.C_alloc HC3.out.2 _) _) _); (case e2 => exact C_img (xs := [2, 1]) (h1 := w3.heap.size + 1) (h2 := w3.heap.size + 2) (by (have := bka (heap_alloc_new (w3.alloc (.cells #[.int .i64 2, .int .i64 1, .int .i64 8, .slice A3 [[2, 1]].length c3] 24)) (.cells #[.int .i64 2, .int .i64 1] 3)) (.cells #[.slice (some ⟨w3.heap.size + 1, 0, none⟩) 2 2] 39); simpa [World.size_alloc] using this)) (by decide) (by (have := heap_alloc_new ((w3.alloc (.cells #[.int .i64 2, .int .i64 1, .int .i64 8, .slice A3 [[2, 1]].length c3] 24)).alloc (.cells #[.int .i64 2, .int .i64 1] 3)) (.cells #[.slice (some ⟨w3.heap.size + 1, 0, none⟩) 2 2] 39); simpa [World.size_alloc] using this))); rintro e w4 ⟨rfl, hb⟩; have HB4 := As0.mk (pwt HB3.out (pwt (bwa (bwa (bwa (Below.refl _ _) _) _) _) hb)); clear hb)))
 go_ret
 exact ⟨rfl, HB4.out⟩
def l15_awake.f (_ : Nat) : Option Bool := some true
theorem l15_awake.calls (k : Nat) (r : Bool) (w : World) (h : l15_awake.f k = some r) : Calls Tryz.prog 16 #[] w fun e w' => e = .returned (.bool r) ∧ Below w.heap.size w w' := by
 injection h with h
 subst h
 exact awake_true w
theorem plain_l0 (a b c : Int) (l : List (List Int)) (hl : l.length ≤ 9223372036854775807) : ∀ (n j : Nat), j + n = l.length → ∃ r, (Ev fun k => l15_plain.l0 k j a b c l = some r) ∧ (r = true → l.length ≤ 8 ∧ ∀ x ∈ l.drop j, x.length ≤ 5000) := by
 intro n
 induction n with
 | zero =>
  intro j hj
  refine ⟨decide ((l.length : Int) ≤ 8), Ev.const (fun k => ?_), fun h => ⟨by have := of_decide_eq_true h; omega, ?_⟩⟩
  ·rw [l15_plain.l0, if_neg (by omega)]
  ·rw [List.drop_eq_nil_of_le (by omega)]
   intro x hx
   cases hx
 | succ n ih =>
  intro j hj
  have hjl : j < l.length := by omega
  have hx : l[j]? = some l[j] := List.getElem?_eq_getElem hjl
  have hw : wrap64 ((j : Int) + 1) = ((j + 1 : Nat) : Int) := by unfold wrap64; omega
  by_cases h5 : (l[j].length : Int) > 5000
  ·refine ⟨false, Ev.const (fun k => ?_), fun h => by cases h⟩
   rw [l15_plain.l0, if_pos (by omega), if_pos (by omega), rdL1_at l j _ hx, if_pos h5]
  ·obtain ⟨r, hr, hr2⟩ := ih (j + 1) (by omega)
   refine ⟨r, Ev.step (fun k => ?_) hr, fun h => ⟨(hr2 h).1, ?_⟩⟩
   ·rw [l15_plain.l0, if_pos (by omega), if_pos (by omega), rdL1_at l j _ hx, if_neg h5, hw]
   ·rw [drop_at l j _ hx]
    intro x hx
    rcases List.mem_cons.1 hx with rfl | hx
    ·omega
    ·exact (hr2 h).2 x hx
def pixOk (cw ch x y : Int) (mw t : Nat) : Bool := btw (x + ((t % mw : Nat) : Int)) 0 (cw - 1) && btw (y + ((t / mw : Nat) : Int)) 0 (ch - 1)
def pixAt (cw x y : Int) (mw t : Nat) : Nat := ((y + ((t / mw : Nat) : Int)) * cw + x + ((t % mw : Nat) : Int)).toNat
def pt (cw ch x y : Int) (mw : Nat) (row mrow : List Int) : Nat → List Int
 | 0 => row
 | t + 1 => if pixOk cw ch x y mw t = true then (pt cw ch x y mw row mrow t).set (pixAt cw x y mw t) (mrow.getD t 0) else pt cw ch x y mw row mrow t
theorem pt_length (cw ch x y : Int) (mw : Nat) (row mrow : List Int) (t : Nat) : (pt cw ch x y mw row mrow t).length = row.length := by
 induction t with
 | zero => rfl
 | succ t ih => unfold pt; split <;> simp [ih]
def pg (cw ch x y : Int) (mw N : Nat) (ps ms : List (List Int)) (p t : Nat) : List (List Int) :=
 (List.range ps.length).map fun j => if j < p then pt cw ch x y mw (ps.getD j []) (ms.getD j []) N else if j = p then pt cw ch x y mw (ps.getD j []) (ms.getD j []) t else ps.getD j []
section
variable (cw ch x y : Int) (mw N : Nat) (ps ms : List (List Int))
theorem pg_length (p t : Nat) : (pg cw ch x y mw N ps ms p t).length = ps.length := by simp [pg]
theorem pg_get (p t j : Nat) (h : j < ps.length) : (pg cw ch x y mw N ps ms p t)[j]? = some (if j < p then pt cw ch x y mw (ps.getD j []) (ms.getD j []) N else if j = p then pt cw ch x y mw (ps.getD j []) (ms.getD j []) t else ps.getD j []) := by
 simp [pg, h]
theorem pg_zero : pg cw ch x y mw N ps ms 0 0 = ps := by
 apply List.ext_getElem?
 intro j
 by_cases h : j < ps.length
 ·rw [pg_get _ _ _ _ _ _ _ _ _ _ _ h, if_neg (by omega)]
  by_cases hj : j = 0 <;> simp [hj, pt, List.getD_eq_getElem?_getD] <;> simp_all
 ·rw [List.getElem?_eq_none (by rw [pg_length]; omega), List.getElem?_eq_none (by omega)]
theorem pg_next (p : Nat) : pg cw ch x y mw N ps ms p N = pg cw ch x y mw N ps ms (p + 1) 0 := by
 apply List.ext_getElem?
 intro j
 by_cases h : j < ps.length
 ·rw [pg_get _ _ _ _ _ _ _ _ _ _ _ h, pg_get _ _ _ _ _ _ _ _ _ _ _ h]
  rcases Nat.lt_trichotomy j p with hj | hj | hj
  ·rw [if_pos hj, if_pos (by omega)]
  ·subst hj
   rw [if_neg (by omega), if_pos rfl, if_pos (by omega)]
  ·rw [if_neg (by omega), if_neg (by omega), if_neg (by omega)]
   by_cases hj' : j = p + 1 <;> simp [hj', pt]
 ·rw [List.getElem?_eq_none (by rw [pg_length]; omega), List.getElem?_eq_none (by rw [pg_length]; omega)]
def putP : List (List Int) := (List.range ps.length).map fun j => pt cw ch x y mw (ps.getD j []) (ms.getD j []) N
theorem pg_last (p : Nat) (h : p = ps.length) : pg cw ch x y mw N ps ms p 0 = putP cw ch x y mw N ps ms := by
 subst h
 unfold pg putP
 refine List.map_congr_left fun j hj => ?_
 rw [if_pos (List.mem_range.1 hj)]
theorem pg_row (p t : Nat) (l m : List Int) (h : ps[p]? = some l) (hm : ms[p]? = some m) : (pg cw ch x y mw N ps ms p t)[p]? = some (pt cw ch x y mw l m t) := by
 have hl := (List.getElem?_eq_some_iff.1 h).1
 rw [pg_get _ _ _ _ _ _ _ _ _ _ _ hl, if_neg (by omega), if_pos rfl]
 simp [List.getD_eq_getElem?_getD, h, hm]
theorem pg_set (p t : Nat) (l m : List Int) (h : ps[p]? = some l) (hm : ms[p]? = some m) (r : List Int) (hr : r = pt cw ch x y mw l m (t + 1)) :
  (pg cw ch x y mw N ps ms p t).set p r = pg cw ch x y mw N ps ms p (t + 1) := by
 have hl := (List.getElem?_eq_some_iff.1 h).1
 apply List.ext_getElem?
 intro j
 by_cases hj : p = j
 ·subst hj
  rw [List.getElem?_set_self (by rw [pg_length]; exact hl), pg_row _ _ _ _ _ _ _ _ p (t + 1) l m h hm, hr]
 ·rw [List.getElem?_set_ne hj]
  by_cases hjl : j < ps.length
  ·rw [pg_get _ _ _ _ _ _ _ _ _ _ _ hjl, pg_get _ _ _ _ _ _ _ _ _ _ _ hjl]
   by_cases h3 : j < p
   ·rw [if_pos h3, if_pos h3]
   ·rw [if_neg h3, if_neg h3, if_neg (by omega), if_neg (by omega)]
  ·rw [List.getElem?_eq_none (by rw [pg_length]; omega), List.getElem?_eq_none (by rw [pg_length]; omega)]
theorem pg_skip (p t : Nat) (h : pixOk cw ch x y mw t = false) : pg cw ch x y mw N ps ms p t = pg cw ch x y mw N ps ms p (t + 1) := by
 unfold pg
 refine List.map_congr_left fun j _ => ?_
 by_cases h1 : j < p
 ·rw [if_pos h1, if_pos h1]
 ·rw [if_neg h1, if_neg h1]
  by_cases h2 : j = p
  ·rw [if_pos h2, if_pos h2]
   conv => rhs; unfold pt
   rw [if_neg (by rw [h]; decide)]
  ·rw [if_neg h2, if_neg h2]
end
def KeepTy (w w' : World) : Prop := ∀ (k : Nat) (cells : Array Value) (t : TypeId), t ≠ 3 → w.heap[k]? = some (.cells cells t (0, 0)) → w'.heap[k]? = some (.cells cells t (0, 0))
theorem KeepTy.refl (w : World) : KeepTy w w := fun _ _ _ _ h => h
theorem KeepTy.below {w w1 w2 : World} (h : KeepTy w w1) (hb : Below w1.heap.size w1 w2) : KeepTy w w2 := fun k cells t ht hk => bkb (h k cells t ht hk) hb
theorem KeepTy.drewN {w w1 : World} (h : KeepTy w w1) (n : Nat) : KeepTy w (w1.drewN n) := fun k cells t ht hk => h k cells t ht hk
theorem KeepTy.drew {w w1 : World} (h : KeepTy w w1) : KeepTy w w1.drew := fun k cells t ht hk => h k cells t ht hk
theorem KeepTy.set {w w1 : World} (h : KeepTy w w1) {g : Nat} {c : Array Value} (hc : w1.heap[g]? = some (.cells c 3 (0, 0))) (j : Nat) (v : Value) : KeepTy w (w1.setCell ⟨g, j, none⟩ v) := fun k cells t ht hk =>
 bkf (h k cells t ht hk) (ne_types (h k cells t ht hk) hc ht) v
theorem Below.drewN_ {B : Nat} {w w' : World} (h : Below B w w') (n : Nat) : Below B w (w'.drewN n) := pwN h n
theorem Below.drew_ {B : Nat} {w w' : World} (h : Below B w w') : Below B w w'.drew := h.drew
theorem Below.mono_ {B : Nat} {w w' : World} (h : B ≤ w.heap.size) (hb : Below w.heap.size w w') : Below B w w' := hb.mono h
theorem below_then' {B : Nat} {w w1 w2 : World} (h : Below B w w1) (hb : Below w1.heap.size w1 w2) (hB : B ≤ w1.heap.size) : Below B w w2 := h.trans (hb.mono hB)
def item_put.T11 : Bool × List (List Nat × List Nat) := (true, [([], []), ([0], [0]), ([], []), ([1, 2], [1, 2]), ([3], [3]), ([], []), ([], []), ([5, 6], [5, 6]), ([], []), ([8], [8]), ([7, 9], [7, 9]), ([], []), ([10, 11], [10, 11]), ([], []), ([12, 13], [12, 13]), ([], []), ([15], [15]), ([], []), ([16, 17], [16, 17]), ([18], [18]), ([], []), ([], []), ([21], [21]), ([20, 22], [20, 22]), ([], []), ([23, 24], [23, 24]), ([19, 25], [19, 25]), ([26], [26]), ([4, 14, 0, 1, 2, 3, 4, 5, 6, 7, 8, 9, 10, 11, 12, 13, 14, 15, 16, 17, 18, 19, 20, 21, 22, 23, 24, 25, 26, 27], [4, 14]), ([28, 27, 0, 1, 2, 3, 4, 5, 6, 7, 8, 9, 10, 11, 12, 13, 14, 15, 16, 17, 18, 19, 20, 21, 22, 23, 24, 25, 26, 27], [27, 28])])
def item_put.B11 : List Nat := [0, 1, 0, 7, 15, 0, 0, 96, 0, 256, 992, 0, 4064, 0, 16352, 0, 32768, 0, 229376, 491520, 0, 0, 2097152, 7340032, 0, 32505856, 67076096, 134184960, 268435455, 536870911]
theorem item_put.tab11 : rtab .any (opsOf Tryz.f68 11) = item_put.T11 := by kernel_rfl
theorem item_put.bits11 : waitsOk item_put.T11.2 item_put.B11 = true := by kernel_rfl
set_option maxHeartbeats 32000000 in
set_option maxRecDepth 100000 in
theorem item_put.calls (cw ch cb : Int) (g n cc : Nat) (ps : List (List Int)) (mw mh mb : Int) (A : Option Addr) (cm : Nat) (ms : List (List Int)) (x y : Int) (w : World) (NB : Nat) (ok : Nat → Prop)
  (hS : Kd.S (Kd.slice 3 (Kd.int .i64)) 39 w NB ok (.slice (some ⟨g, 0, none⟩) n cc) ps) (hF : Kd.F (Kd.slice 3 (Kd.int .i64)) w (fun k => k < NB) A n ms) (hN : NB ≤ w.heap.size) (hn : 0 < n ∧ n ≤ 1000)
  (hb : 1 ≤ cw ∧ cw ≤ 1000 ∧ 1 ≤ ch ∧ ch ≤ 1000 ∧ 1 ≤ mw ∧ mw ≤ 1000 ∧ 1 ≤ mh ∧ mh ≤ 1000 ∧ -1000000 ≤ x ∧ x ≤ 1000000 ∧ -1000000 ≤ y ∧ y ≤ 1000000) (hps : ∀ r ∈ ps, r.length = cw.toNat * ch.toNat) (hms : ∀ r ∈ ms, r.length = mw.toNat * mh.toNat) :
  Calls Tryz.prog 68 #[.agg #[.int .i64 cw, .int .i64 ch, .int .i64 cb, .slice (some ⟨g, 0, none⟩) n cc], .agg #[.int .i64 mw, .int .i64 mh, .int .i64 mb, .slice A n cm], .int .i64 x, .int .i64 y] w fun e w' => e = .returned (.tuple #[]) ∧
   Kd.S (Kd.slice 3 (Kd.int .i64)) 39 w' NB ok (.slice (some ⟨g, 0, none⟩) n cc) (putP cw ch x y mw.toNat (mw.toNat * mh.toNat) ps ms) ∧ Below NB w w' ∧ KeepTy w w' := by
 have hpl : ps.length = n := (Kd.S_reads' hS).1.symm
 have hml : ms.length = n := Kd.F_len hF
 obtain ⟨am, rfl, _⟩ := (Kd.F_now hF).2.2 hn.1
 have HS := As0.mk hS
 have HF := As0.mk hF
 have HNB := As0.mk hN
 have HN := As0.mk hn
 have HBD := As0.mk hb
 have HPS := As0.mk (And.intro hpl hps)
 have HMS := As0.mk (And.intro hml hms)
 clear hS hF hN hn hb hps hms hpl hml
 have hu24 := Tryz.underlying24
 have hu39 := Tryz.underlying39
 have hu22 := Tryz.underlying22
 go_enter Tryz.func68, Tryz.ntmps68
 go_wp2_with (first | ((with_reducible refine gdt (N := 4) rfl ?_); refine bxe ?hg (N := 4) ?hd (cs := #[.int .i64 cw, .int .i64 ch, .int .i64 cb, .slice (some ⟨g, 0, none⟩) n cc]) (t := 24) ?hr ?_; (case hd => rfl); (case hg => rfl); (case hr => first | (go_simp; done) | (go_simp; rfl)); intro g4 hgg4 w4 hboxg4 hbg4; have BKg4 := As0.mk hboxg4; have HB4 := As0.mk (Below.mono_ HNB.out hbg4); have HS4 := As0.mk (Kd.S_below HS.out hbg4); have HF4 := As0.mk (Kd.F_below HF.out hbg4); have HK4 := As0.mk (KeepTy.below (KeepTy.refl w) hbg4); clear hboxg4 hbg4 hgg4) | ((with_reducible refine gdt (N := 5) rfl ?_); refine bxe ?hg (N := 5) ?hd (cs := #[.int .i64 mw, .int .i64 mh, .int .i64 mb, .slice (some am) n cm]) (t := 24) ?hr ?_; (case hd => rfl); (case hg => rfl); (case hr => first | (go_simp; done) | (go_simp; rfl)); intro g5 hgg5 w5 hboxg5 hbg5; have BKg5 := As0.mk hboxg5; have HB5 := As0.mk (below_then' HB4.out hbg5 (by have := HB4.out.size; have := HNB.out; omega)); have BKg4' := As0.mk (bkb BKg4.out hbg5); have HS5 := As0.mk (Kd.S_below HS4.out hbg5); have HF5 := As0.mk (Kd.F_below HF4.out hbg5); have HK5 := As0.mk (KeepTy.below HK4.out hbg5); have m3 : w5.cell? ⟨g5, 3, none⟩ = some (.slice (some am) n cm) := (bkc BKg5.out 3).trans rfl; clear hboxg5 hbg5 hgg5))
 clear m3
 go_loopg [14] n (fun kq v14 w' => ∃ (p : Int), v14 = .int .i64 p ∧ As0 (0 ≤ p ∧ p + kq = n) ∧ As0 (Kd.S (Kd.slice 3 (Kd.int .i64)) 39 w' NB ok (.slice (some ⟨g, 0, none⟩) n cc) (pg cw ch x y mw.toNat (mw.toNat * mh.toNat) ps ms p.toNat 0)) ∧ As0 (Kd.F (Kd.slice 3 (Kd.int .i64)) w' (fun k => k < NB) (some am) n ms) ∧ As0 (w'.heap[g4]? = some (.cells #[.int .i64 cw, .int .i64 ch, .int .i64 cb, .slice (some ⟨g, 0, none⟩) n cc] 24 (0, 0))) ∧ As0 (w'.heap[g5]? = some (.cells #[.int .i64 mw, .int .i64 mh, .int .i64 mb, .slice (some am) n cm] 24 (0, 0))) ∧ As0 (Below NB w w') ∧ As0 (KeepTy w w'))
 case atStart => exact ⟨0, rfl, ⟨by omega, by omega⟩, ⟨by simpa [pg_zero] using HS5.out⟩, HF5, BKg4', BKg5, HB5, HK5⟩
 case round =>
  clear BKg4 BKg4' BKg5 HS4 HS5 HF4 HF5 HB4 HB5 HS HF HK4 HK5
  obtain ⟨p, rfl, HP, HS, HF, BKg4, BKg5, HB, HK⟩ := hrel
  cases gk with
  | zero =>
   have hge : decide (p < (n : Int)) = false := by have := HP.out; simp; omega
   have hpn : p.toNat = ps.length := by have := HP.out; have := HPS.out.1; omega
   rw [pg_last _ _ _ _ _ _ _ _ _ hpn] at HS
   go_wp2
   first | go_end0 | ((try simp only [Exit.inBlock, Exit.then]); refine bodyPost_ret (results_none rfl _ _ _) rfl ?_)
   exact ⟨rfl, HS.out, HB.out, HK.out⟩
  | succ kq1 =>
   have pd : decide (p < (n : Int)) = true := decide_eq_true (by have := HP.out; omega)
   have k51 : wr.cell? ⟨g5, 1, none⟩ = some (.int .i64 mh) := (bkc BKg5.out 1).trans rfl
   go_wp2
   clear k51
   go_loopg [19] mh.toNat (fun kq v19 w' => ∃ (j : Int), v19 = .int .i64 j ∧ As0 (0 ≤ j ∧ j + kq = mh) ∧ As0 (Kd.S (Kd.slice 3 (Kd.int .i64)) 39 w' NB ok (.slice (some ⟨g, 0, none⟩) n cc) (pg cw ch x y mw.toNat (mw.toNat * mh.toNat) ps ms p.toNat (j.toNat * mw.toNat))) ∧ As0 (Kd.F (Kd.slice 3 (Kd.int .i64)) w' (fun k => k < NB) (some am) n ms) ∧ As0 (w'.heap[g4]? = some (.cells #[.int .i64 cw, .int .i64 ch, .int .i64 cb, .slice (some ⟨g, 0, none⟩) n cc] 24 (0, 0))) ∧ As0 (w'.heap[g5]? = some (.cells #[.int .i64 mw, .int .i64 mh, .int .i64 mb, .slice (some am) n cm] 24 (0, 0))) ∧ As0 (Below NB w w') ∧ As0 (KeepTy w w'))
   case atStart => exact ⟨0, rfl, ⟨by omega, by have := HBD.out; omega⟩, ⟨by simpa using HS.out⟩, HF, BKg4, BKg5, HB, HK⟩
   case round =>
    clear BKg4 BKg5 HS HF HB HK
    obtain ⟨j, rfl, HJ, HS, HF, BKg4, BKg5, HB, HK⟩ := hrel
    cases gk with
    | zero =>
     have hge : decide (j < mh) = false := by have := HJ.out; simp; omega
     have hj : j.toNat * mw.toNat = mw.toNat * mh.toNat := by rw [Nat.mul_comm]; congr 1; have := HJ.out; omega
     rw [hj, pg_next] at HS
     have hw : As0 (wrap64 (p + 1) = p + 1 ∧ (p + 1).toNat = p.toNat + 1) := ⟨by have := HP.out; have := HN.out; unfold wrap64; omega, by have := HP.out; omega⟩
     clear hj
     go_wp2
     go_roundg kq1
     case measure => omega
     case rel => exact ⟨p + 1, congrArg _ hw.out.1, ⟨by have := HP.out; omega, by have := HP.out; omega⟩, ⟨by rw [hw.out.2]; exact HS.out⟩, HF, BKg4, BKg5, HB, HK⟩
    | succ kq2 =>
     have jd : decide (j < mh) = true := decide_eq_true (by have := HJ.out; omega)
     have k50 : wr.cell? ⟨g5, 0, none⟩ = some (.int .i64 mw) := (bkc BKg5.out 0).trans rfl
     go_wp2
     clear k50
     go_loopg [24] mw.toNat (fun kq v24 w' => ∃ (i : Int), v24 = .int .i64 i ∧ As0 (0 ≤ i ∧ i + kq = mw) ∧ As0 (Kd.S (Kd.slice 3 (Kd.int .i64)) 39 w' NB ok (.slice (some ⟨g, 0, none⟩) n cc) (pg cw ch x y mw.toNat (mw.toNat * mh.toNat) ps ms p.toNat (j.toNat * mw.toNat + i.toNat))) ∧ As0 (Kd.F (Kd.slice 3 (Kd.int .i64)) w' (fun k => k < NB) (some am) n ms) ∧ As0 (w'.heap[g4]? = some (.cells #[.int .i64 cw, .int .i64 ch, .int .i64 cb, .slice (some ⟨g, 0, none⟩) n cc] 24 (0, 0))) ∧ As0 (w'.heap[g5]? = some (.cells #[.int .i64 mw, .int .i64 mh, .int .i64 mb, .slice (some am) n cm] 24 (0, 0))) ∧ As0 (Below NB w w') ∧ As0 (KeepTy w w'))
     case atStart => exact ⟨0, rfl, ⟨by omega, by have := HBD.out; omega⟩, ⟨by simpa using HS.out⟩, HF, BKg4, BKg5, HB, HK⟩
     case round =>
      clear BKg4 BKg5 HS HF HB HK
      obtain ⟨i, rfl, HI, HS, HF, BKg4, BKg5, HB, HK⟩ := hrel
      cases gk with
      | zero =>
       have hge : decide (i < mw) = false := by have := HI.out; simp; omega
       have hi : j.toNat * mw.toNat + i.toNat = (j.toNat + 1) * mw.toNat := by rw [Nat.add_mul, Nat.one_mul]; congr 1; have := HI.out; omega
       rw [hi] at HS
       have hw : As0 (wrap64 (j + 1) = j + 1 ∧ (j + 1).toNat = j.toNat + 1) := ⟨by have := HJ.out; have := HBD.out; unfold wrap64; omega, by have := HJ.out; omega⟩
       clear hi
       go_wp2
       go_roundg kq2
       case measure => omega
       case rel => exact ⟨j + 1, congrArg _ hw.out.1, ⟨by have := HJ.out; omega, by have := HJ.out; omega⟩, ⟨by rw [hw.out.2]; exact HS.out⟩, HF, BKg4, BKg5, HB, HK⟩
      | succ kq3 =>
       have id : decide (i < mw) = true := decide_eq_true (by have := HI.out; omega)
       have HT : As0 (j.toNat * mw.toNat + i.toNat < mw.toNat * mh.toNat ∧ (j.toNat * mw.toNat + i.toNat) % mw.toNat = i.toNat ∧ (j.toNat * mw.toNat + i.toNat) / mw.toNat = j.toNat) := ⟨by have := Nat.mul_le_mul_right mw.toNat (show j.toNat + 1 ≤ mh.toNat by have := HJ.out; omega); rw [Nat.mul_comm mw.toNat mh.toNat]; rw [Nat.add_mul, Nat.one_mul] at this; have := HI.out; omega, by rw [Nat.mul_comm, Nat.mul_add_mod, Nat.mod_eq_of_lt (by have := HI.out; omega)], by rw [Nat.mul_comm, Nat.mul_add_div (by have := HI.out; omega), Nat.div_eq_of_lt (by have := HI.out; omega), Nat.add_zero]⟩
       have HW : As0 (wrap64 (i + 1) = i + 1 ∧ (i + 1).toNat = i.toNat + 1) := ⟨by have := HI.out; have := HBD.out; unfold wrap64; omega, by have := HI.out; omega⟩
       have HPX : As0 (pixOk cw ch x y mw.toNat (j.toNat * mw.toNat + i.toNat) = (btw (x + i) 0 (cw - 1) && btw (y + j) 0 (ch - 1))) := ⟨by unfold pixOk; rw [HT.out.2.1, HT.out.2.2, Int.toNat_of_nonneg HI.out.1, Int.toNat_of_nonneg HJ.out.1]⟩
       obtain ⟨q1, hq1, v1⟩ : ∃ q, wrap64 (x + i) = q ∧ q = x + i := ⟨_, rfl, by have := HI.out; have := HBD.out; unfold wrap64; omega⟩
       obtain ⟨q2, hq2, v2⟩ : ∃ q, wrap64 (cw - 1) = q ∧ q = cw - 1 := ⟨_, rfl, by have := HBD.out; unfold wrap64; omega⟩
       obtain ⟨q3, hq3, v3⟩ : ∃ q, wrap64 (y + j) = q ∧ q = y + j := ⟨_, rfl, by have := HJ.out; have := HBD.out; unfold wrap64; omega⟩
       obtain ⟨q4, hq4, v4⟩ : ∃ q, wrap64 (ch - 1) = q ∧ q = ch - 1 := ⟨_, rfl, by have := HBD.out; unfold wrap64; omega⟩
       rw [← v1, ← v2, ← v3, ← v4] at HPX
       have HV := As0.mk (And.intro v1 (And.intro v2 (And.intro v3 v4)))
       clear v1 v2 v3 v4
       have k40 : wr.cell? ⟨g4, 0, none⟩ = some (.int .i64 cw) := (bkc BKg4.out 0).trans rfl
       have k41 : wr.cell? ⟨g4, 1, none⟩ = some (.int .i64 ch) := (bkc BKg4.out 1).trans rfl
       cases hb1 : btw q1 0 q2 with
       | false =>
        have HC1 := As0.mk (iwithin_is q1 0 q2 false hb1)
        rw [hb1, Bool.false_and] at HPX
        rw [pg_skip _ _ _ _ _ _ _ _ _ _ HPX.out] at HS
        clear hb1
        go_wp2_with (go_at_call 48; (with_reducible refine (HC1.out _).mono ?_); rintro e w' ⟨rfl, ⟨nd, rfl⟩⟩)
        go_roundg kq3
        case measure => omega
        case rel => exact ⟨i + 1, congrArg _ HW.out.1, ⟨by have := HI.out; omega, by have := HI.out; omega⟩, ⟨by rw [HW.out.2, ← Nat.add_assoc]; exact Kd.S_drewN HS.out _⟩, ⟨Kd.F_drewN HF.out _⟩, ⟨bkN BKg4.out _⟩, ⟨bkN BKg5.out _⟩, ⟨Below.drewN_ HB.out _⟩, ⟨KeepTy.drewN HK.out _⟩⟩
       | true =>
        have HC1 := As0.mk (iwithin_is q1 0 q2 true hb1)
        rw [hb1, Bool.true_and] at HPX
        have HI1 : As0 (0 ≤ q1 ∧ q1 ≤ q2) := ⟨by simpa [btw] using hb1⟩
        clear hb1
        cases hb2 : btw q3 0 q4 with
        | false =>
         have HC2 := As0.mk (iwithin_is q3 0 q4 false hb2)
         rw [hb2] at HPX
         rw [pg_skip _ _ _ _ _ _ _ _ _ _ HPX.out] at HS
         clear hb2
         go_wp2_with (first | (go_at_call 48; (with_reducible refine (HC1.out _).mono ?_); rintro e w' ⟨rfl, ⟨nd, rfl⟩⟩) | (go_at_call 48; (with_reducible refine (HC2.out _).mono ?_); rintro e w' ⟨rfl, ⟨nd2, rfl⟩⟩))
         go_roundg kq3
         case measure => omega
         case rel => exact ⟨i + 1, congrArg _ HW.out.1, ⟨by have := HI.out; omega, by have := HI.out; omega⟩, ⟨by rw [HW.out.2, ← Nat.add_assoc]; exact Kd.S_drewN HS.out _⟩, ⟨Kd.F_drewN HF.out _⟩, ⟨bkN BKg4.out _⟩, ⟨bkN BKg5.out _⟩, ⟨Below.drewN_ HB.out _⟩, ⟨KeepTy.drewN HK.out _⟩⟩
        | true =>
         have HC2 := As0.mk (iwithin_is q3 0 q4 true hb2)
         have HI2 : As0 (0 ≤ q3 ∧ q3 ≤ q4) := ⟨by simpa [btw] using hb2⟩
         rw [hb2] at HPX
         clear hb2
         go_wp2_with (first | (go_at_call 48; (with_reducible refine (HC1.out _).mono ?_); rintro e w' ⟨rfl, ⟨nd, rfl⟩⟩) | (go_at_call 48; (with_reducible refine (HC2.out _).mono ?_); rintro e w' ⟨rfl, ⟨nd2, rfl⟩⟩))
         clear k40 k41 HC1 HC2
         replace HS := As0.mk (Kd.S_drewN HS.out (nd + nd2))
         replace HF := As0.mk (Kd.F_drewN HF.out (nd + nd2))
         replace BKg4 := As0.mk (bkN BKg4.out (nd + nd2))
         replace BKg5 := As0.mk (bkN BKg5.out (nd + nd2))
         replace HB := As0.mk (Below.drewN_ HB.out (nd + nd2))
         replace HK := As0.mk (KeepTy.drewN HK.out (nd + nd2))
         generalize wr.drewN (nd + nd2) = wx at *
         have hpn : p.toNat < n := by have := HP.out; omega
         obtain ⟨lp, hlp⟩ : ∃ l, ps[p.toNat]? = some l := ⟨_, List.getElem?_eq_getElem (by have := HPS.out.1; omega)⟩
         obtain ⟨lm, hlm⟩ : ∃ l, ms[p.toNat]? = some l := ⟨_, List.getElem?_eq_getElem (by have := HMS.out.1; omega)⟩
         have hlpl := HPS.out.2 _ (List.mem_of_getElem? hlp)
         have hlml := HMS.out.2 _ (List.mem_of_getElem? hlm)
         have nrow := pg_row cw ch x y mw.toNat (mw.toNat * mh.toNat) ps ms p.toNat (j.toNat * mw.toNat + i.toNat) lp lm hlp hlm
         have nlen := pt_length cw ch x y mw.toNat lp lm (j.toNat * mw.toNat + i.toNat)
         have hT := HT.out
         have hcA : 0 < cw.toNat * ch.toNat := Nat.mul_pos (by have := HBD.out; omega) (by have := HBD.out; omega)
         have hMB : cw.toNat * ch.toNat ≤ 1000 * 1000 := Nat.mul_le_mul (by have := HBD.out; omega) (by have := HBD.out; omega)
         have hMM : mw.toNat * mh.toNat ≤ 1000 * 1000 := Nat.mul_le_mul (by have := HBD.out; omega) (by have := HBD.out; omega)
         have e1 : q3 * cw = ((q3.toNat * cw.toNat : Nat) : Int) := by rw [Int.natCast_mul]; congr 1 <;> (have := HBD.out; have := HI2.out; omega)
         have b1 : q3.toNat * cw.toNat + cw.toNat ≤ cw.toNat * ch.toNat := by rw [← Nat.succ_mul, Nat.mul_comm cw.toNat ch.toNat]; exact Nat.mul_le_mul_right _ (by have := HI2.out; have := HV.out; omega)
         have e2 : j * mw = ((j.toNat * mw.toNat : Nat) : Int) := by rw [Int.natCast_mul]; congr 1 <;> (have := HBD.out; have := HJ.out; omega)
         obtain ⟨q5, hq5, v5⟩ : ∃ q, wrap64 (q3 * cw) = q ∧ q = ((q3.toNat * cw.toNat : Nat) : Int) := ⟨_, rfl, by rw [e1]; unfold wrap64; omega⟩
         obtain ⟨q6, hq6, v6⟩ : ∃ q, wrap64 (q5 + x) = q ∧ q = q5 + x := ⟨_, rfl, by have := HBD.out; unfold wrap64; omega⟩
         obtain ⟨q7, hq7, v7⟩ : ∃ q, wrap64 (q6 + i) = q ∧ q = ((q3.toNat * cw.toNat + q1.toNat : Nat) : Int) := ⟨_, rfl, by rw [v6, v5]; have := HV.out; have := HI1.out; have := HBD.out; unfold wrap64; omega⟩
         obtain ⟨q8, hq8, v8⟩ : ∃ q, wrap64 (j * mw) = q ∧ q = ((j.toNat * mw.toNat : Nat) : Int) := ⟨_, rfl, by rw [e2]; unfold wrap64; omega⟩
         obtain ⟨q9, hq9, v9⟩ : ∃ q, wrap64 (q8 + i) = q ∧ q = ((j.toNat * mw.toNat + i.toNat : Nat) : Int) := ⟨_, rfl, by rw [v8]; have := HI.out; unfold wrap64; omega⟩
         have hpix : pixAt cw x y mw.toNat (j.toNat * mw.toNat + i.toNat) = q7.toNat := by
          unfold pixAt
          rw [hT.2.1, hT.2.2, Int.toNat_of_nonneg HI.out.1, Int.toNat_of_nonneg HJ.out.1, ← HV.out.2.2.1, Int.add_assoc, ← HV.out.1, e1, v7]
          have := HI1.out
          omega
         have p0 : 0 ≤ p := HP.out.1
         have p1 : p < (n : Int) := by omega
         obtain ⟨gq, cq, okq, kq, hokq, hqN, _, hbq, hlq, ⟨cellsq, hcq⟩, hRq, _, hback⟩ := S_row (Kd.S_drew HS.out) p p0 p1 _ nrow (by rw [nlen, hlpl]; exact hcA)
         have w0_ : 0 ≤ q7 := by omega
         have w1_ : q7 < ((pt cw ch x y mw.toNat lp lm (j.toNat * mw.toNat + i.toNat)).length : Int) := by rw [nlen, hlpl, v7]; have := HI1.out; have := HV.out; have := HBD.out; omega
         obtain ⟨cn, fn⟩ := Kd.R_celln 0 hRq q7 w0_ w1_
         obtain ⟨adm, Ar, cr, hadm, hrow, hcr, hCr⟩ := at_L1 (Kd.F_now (Kd.F_drew HF.out)) p p0 p1
         cases hadm
         have hrd : rd_L1 ms p = lm := by simp [rd_L1, List.getD_eq_getElem?_getD, hlm]
         rw [hrd] at hrow hCr
         have u0 : 0 ≤ q9 := by omega
         have u1 : q9 < (lm.length : Int) := by rw [hlml]; omega
         obtain ⟨adr, hadr, hpx⟩ := Kd.at_int hCr q9 u0 u1
         subst hadr
         have hp3 := Kd.R_putg hRq q7 (rd lm q9)
         have hS3 := hback _ _ hp3.2 hp3.1
         have hset := pg_set cw ch x y mw.toNat (mw.toNat * mh.toNat) ps ms p.toNat (j.toNat * mw.toNat + i.toNat) lp lm hlp hlm ((pt cw ch x y mw.toNat lp lm (j.toNat * mw.toNat + i.toNat)).set q7.toNat (rd lm q9)) (by
          conv => rhs; unfold pt
          rw [if_pos HPX.out, hpix]
          congr 1
          show lm.getD q9.toNat 0 = _
          rw [v9, Int.toNat_natCast])
         rw [hset] at hS3
         have HS3 := As0.mk hS3
         have HCQ := As0.mk hcq
         have HBQ := As0.mk hbq
         have u0d : decide (0 ≤ q9) = true := decide_eq_true u0
         have u1d : decide (q9 < (lm.length : Int)) = true := decide_eq_true u1
         have w0d : decide (0 ≤ q7) = true := decide_eq_true w0_
         have w1d : decide (q7 < ((pt cw ch x y mw.toNat lp lm (j.toNat * mw.toNat + i.toNat)).length : Int)) = true := decide_eq_true w1_
         have p0d : decide (0 ≤ p) = true := decide_eq_true p0
         clear hS3 hset hp3 hback hRq nrow nlen hokq hqN hbq hlq hcq v5 v6 v7 v8 v9 e1 e2 b1 hcA hMB hMM hpix hT hlpl hlml hrd hCr hpn hlp hlm hcr
         generalize rd lm q9 = vx at *
         generalize (pt cw ch x y mw.toNat lp lm (j.toNat * mw.toNat + i.toNat)).length = LN at *
         generalize lm.length = LM at *
         replace u0 := eq_true u0
         replace u1 := eq_true u1
         replace w0_ := eq_true w0_
         replace w1_ := eq_true w1_
         replace p0 := eq_true p0
         replace p1 := eq_true p1
         have k43 : wx.cell? ⟨g4, 3, none⟩ = some (.slice (some ⟨g, 0, none⟩) n cc) := (bkc BKg4.out 3).trans rfl
         have k40 : wx.cell? ⟨g4, 0, none⟩ = some (.int .i64 cw) := (bkc BKg4.out 0).trans rfl
         have k53 : wx.cell? ⟨g5, 3, none⟩ = some (.slice (some am) n cm) := (bkc BKg5.out 3).trans rfl
         have k50 : wx.cell? ⟨g5, 0, none⟩ = some (.int .i64 mw) := (bkc BKg5.out 0).trans rfl
         go_wp2
         refine start_ (n := 30) (S := fun w' => w'.cell? ⟨g4, 3, none⟩ = some (.slice (some ⟨g, 0, none⟩) n cc) ∧ w'.cell? ⟨g, p.toNat, none⟩ = some (.slice (some ⟨gq, 0, none⟩) LN cq) ∧ w'.cell? ⟨g4, 0, none⟩ = some (.int .i64 cw) ∧ w'.cell? ⟨g5, 3, none⟩ = some (.slice (some am) n cm) ∧ w'.cell? (am.add p.toNat) = some (.slice (some adr) LM cr) ∧ w'.cell? ⟨g5, 0, none⟩ = some (.int .i64 mw) ∧ w'.cell? (adr.add q9.toNat) = some (.int .i64 vx)) (ds := [29]) #[false, false, false, false, false, false, false, false, false, false, false, false, false, false, false, false, false, false, false, false, false, false, false, false, false, false, false, false, false, false] (by kernel_rfl) rfl rfl ⟨k43, kq, k40, k53, hrow, k50, hpx⟩ (fun hHeld => ?_); refine with_tabW item_put.tab11 item_put.bits11 (fun HT_ HW_ => ?_)
         replace HF := As0.mk (Kd.F_drew HF.out)
         replace BKg4 := As0.mk (bkd BKg4.out)
         replace BKg5 := As0.mk (bkd BKg5.out)
         replace HB := As0.mk (Below.drew_ HB.out)
         replace HK := As0.mk (KeepTy.drew HK.out)
         clear HS k43 k40 k53 k50 hrow hpx
         generalize wx.drew = wd at *
         refine pure_ (i := 0) (N := some 43) (v := ?_) (a' := ?_) #[true, false, false, false, false, false, false, false, false, false, false, false, false, false, false, false, false, false, false, false, false, false, false, false, false, false, false, false, false, false] rfl rfl (any_of HT_.out (by kernel_rfl)) (fun _ _ _ h => h) (Or.inl ⟨by rfl, ?_⟩) ?_ ?_
         rotate_left
         ·intro w'
          go_simp
          with_reducible rfl
         rotate_left
         ·simp only [Act.put, List.setIfInBounds_toArray, List.set_cons_zero, List.set_cons_succ, i64_w, i32_w, hq3, hq5, hq6, hq7, hq8, hq9]
          rfl
         refine pure_ (i := 2) (N := some 45) (v := ?_) (a' := ?_) #[true, false, true, false, false, false, false, false, false, false, false, false, false, false, false, false, false, false, false, false, false, false, false, false, false, false, false, false, false, false] rfl rfl (any_of HT_.out (by kernel_rfl)) (fun _ _ _ h => h) (Or.inl ⟨by rfl, ?_⟩) ?_ ?_
         rotate_left
         ·intro w'
          go_simp
          with_reducible rfl
         rotate_left
         ·simp only [Act.put, List.setIfInBounds_toArray, List.set_cons_zero, List.set_cons_succ, i64_w, i32_w, hq3, hq5, hq6, hq7, hq8, hq9]
          rfl
         refine pure_ (i := 5) (N := some 48) (v := ?_) (a' := ?_) #[true, false, true, false, false, true, false, false, false, false, false, false, false, false, false, false, false, false, false, false, false, false, false, false, false, false, false, false, false, false] rfl rfl (any_of HT_.out (by kernel_rfl)) (fun _ _ _ h => h) (Or.inl ⟨by rfl, ?_⟩) ?_ ?_
         rotate_left
         ·intro w'
          go_simp
          with_reducible rfl
         rotate_left
         ·simp only [Act.put, List.setIfInBounds_toArray, List.set_cons_zero, List.set_cons_succ, i64_w, i32_w, hq3, hq5, hq6, hq7, hq8, hq9]
          rfl
         refine pure_ (i := 6) (N := some 49) (v := ?_) (a' := ?_) #[true, false, true, false, false, true, true, false, false, false, false, false, false, false, false, false, false, false, false, false, false, false, false, false, false, false, false, false, false, false] rfl rfl (any_of HT_.out (by kernel_rfl)) (fun _ _ _ h => h) (Or.inl ⟨by rfl, ?_⟩) ?_ ?_
         rotate_left
         ·intro w'
          go_simp
          with_reducible rfl
         rotate_left
         ·simp only [Act.put, List.setIfInBounds_toArray, List.set_cons_zero, List.set_cons_succ, i64_w, i32_w, hq3, hq5, hq6, hq7, hq8, hq9]
          rfl
         refine pure_ (i := 7) (N := some 50) (v := ?_) (a' := ?_) #[true, false, true, false, false, true, true, true, false, false, false, false, false, false, false, false, false, false, false, false, false, false, false, false, false, false, false, false, false, false] rfl rfl (any_of HT_.out (by kernel_rfl)) (fun _ _ _ h => h) (Or.inl ⟨by rfl, ?_⟩) ?_ ?_
         rotate_left
         ·intro w'
          go_simp
          with_reducible rfl
         rotate_left
         ·simp only [Act.put, List.setIfInBounds_toArray, List.set_cons_zero, List.set_cons_succ, i64_w, i32_w, hq3, hq5, hq6, hq7, hq8, hq9]
          rfl
         refine pure_ (i := 8) (N := some 51) (v := ?_) (a' := ?_) #[true, false, true, false, false, true, true, true, true, false, false, false, false, false, false, false, false, false, false, false, false, false, false, false, false, false, false, false, false, false] rfl rfl (any_of HT_.out (by kernel_rfl)) (fun _ _ _ h => h) (Or.inl ⟨by rfl, ?_⟩) ?_ ?_
         rotate_left
         ·intro w'
          go_simp
          with_reducible rfl
         rotate_left
         ·simp only [Act.put, List.setIfInBounds_toArray, List.set_cons_zero, List.set_cons_succ, i64_w, i32_w, hq3, hq5, hq6, hq7, hq8, hq9]
          rfl
         refine pure_ (i := 11) (N := some 54) (v := ?_) (a' := ?_) #[true, false, true, false, false, true, true, true, true, false, false, true, false, false, false, false, false, false, false, false, false, false, false, false, false, false, false, false, false, false] rfl rfl (any_of HT_.out (by kernel_rfl)) (fun _ _ _ h => h) (Or.inl ⟨by rfl, ?_⟩) ?_ ?_
         rotate_left
         ·intro w'
          go_simp
          with_reducible rfl
         rotate_left
         ·simp only [Act.put, List.setIfInBounds_toArray, List.set_cons_zero, List.set_cons_succ, i64_w, i32_w, hq3, hq5, hq6, hq7, hq8, hq9]
          rfl
         refine pure_ (i := 13) (N := some 56) (v := ?_) (a' := ?_) #[true, false, true, false, false, true, true, true, true, false, false, true, false, true, false, false, false, false, false, false, false, false, false, false, false, false, false, false, false, false] rfl rfl (any_of HT_.out (by kernel_rfl)) (fun _ _ _ h => h) (Or.inl ⟨by rfl, ?_⟩) ?_ ?_
         rotate_left
         ·intro w'
          go_simp
          with_reducible rfl
         rotate_left
         ·simp only [Act.put, List.setIfInBounds_toArray, List.set_cons_zero, List.set_cons_succ, i64_w, i32_w, hq3, hq5, hq6, hq7, hq8, hq9]
          rfl
         refine pure_ (i := 15) (N := some 58) (v := ?_) (a' := ?_) #[true, false, true, false, false, true, true, true, true, false, false, true, false, true, false, true, false, false, false, false, false, false, false, false, false, false, false, false, false, false] rfl rfl (any_of HT_.out (by kernel_rfl)) (fun _ _ _ h => h) (Or.inl ⟨by rfl, ?_⟩) ?_ ?_
         rotate_left
         ·intro w'
          go_simp
          with_reducible rfl
         rotate_left
         ·simp only [Act.put, List.setIfInBounds_toArray, List.set_cons_zero, List.set_cons_succ, i64_w, i32_w, hq3, hq5, hq6, hq7, hq8, hq9]
          rfl
         refine pure_ (i := 17) (N := some 60) (v := ?_) (a' := ?_) #[true, false, true, false, false, true, true, true, true, false, false, true, false, true, false, true, false, true, false, false, false, false, false, false, false, false, false, false, false, false] rfl rfl (any_of HT_.out (by kernel_rfl)) (fun _ _ _ h => h) (Or.inl ⟨by rfl, ?_⟩) ?_ ?_
         rotate_left
         ·intro w'
          go_simp
          with_reducible rfl
         rotate_left
         ·simp only [Act.put, List.setIfInBounds_toArray, List.set_cons_zero, List.set_cons_succ, i64_w, i32_w, hq3, hq5, hq6, hq7, hq8, hq9]
          rfl
         refine pure_ (i := 20) (N := some 63) (v := ?_) (a' := ?_) #[true, false, true, false, false, true, true, true, true, false, false, true, false, true, false, true, false, true, false, false, true, false, false, false, false, false, false, false, false, false] rfl rfl (any_of HT_.out (by kernel_rfl)) (fun _ _ _ h => h) (Or.inl ⟨by rfl, ?_⟩) ?_ ?_
         rotate_left
         ·intro w'
          go_simp
          with_reducible rfl
         rotate_left
         ·simp only [Act.put, List.setIfInBounds_toArray, List.set_cons_zero, List.set_cons_succ, i64_w, i32_w, hq3, hq5, hq6, hq7, hq8, hq9]
          rfl
         refine pure_ (i := 21) (N := some 64) (v := ?_) (a' := ?_) #[true, false, true, false, false, true, true, true, true, false, false, true, false, true, false, true, false, true, false, false, true, true, false, false, false, false, false, false, false, false] rfl rfl (any_of HT_.out (by kernel_rfl)) (fun _ _ _ h => h) (Or.inl ⟨by rfl, ?_⟩) ?_ ?_
         rotate_left
         ·intro w'
          go_simp
          with_reducible rfl
         rotate_left
         ·simp only [Act.put, List.setIfInBounds_toArray, List.set_cons_zero, List.set_cons_succ, i64_w, i32_w, hq3, hq5, hq6, hq7, hq8, hq9]
          rfl
         refine pure_ (i := 24) (N := some 67) (v := ?_) (a' := ?_) #[true, false, true, false, false, true, true, true, true, false, false, true, false, true, false, true, false, true, false, false, true, true, false, false, true, false, false, false, false, false] rfl rfl (any_of HT_.out (by kernel_rfl)) (fun _ _ _ h => h) (Or.inl ⟨by rfl, ?_⟩) ?_ ?_
         rotate_left
         ·intro w'
          go_simp
          with_reducible rfl
         rotate_left
         ·simp only [Act.put, List.setIfInBounds_toArray, List.set_cons_zero, List.set_cons_succ, i64_w, i32_w, hq3, hq5, hq6, hq7, hq8, hq9]
          rfl
         refine take_ (i := 1) (N := some 44) (v := ?_) (a' := ?_) #[true, true, true, false, false, true, true, true, true, false, false, true, false, true, false, true, false, true, false, false, true, true, false, false, true, false, false, false, false, false] rfl rfl (take_ofW HT_.out HW_.out (by kernel_rfl)) (fun _ _ _ h => h) (Or.inl ⟨by rfl, ?_⟩) hHeld ?_ ?_
         rotate_left
         ·rintro w' ⟨s0, s1, s2, s3, s4, s5, s6⟩
          go_simp
          with_reducible rfl
         rotate_left
         ·simp only [Act.put, List.setIfInBounds_toArray, List.set_cons_zero, List.set_cons_succ, i64_w, i32_w, hq3, hq5, hq6, hq7, hq8, hq9]
          rfl
         refine pure_ (i := 3) (N := some 46) (v := ?_) (a' := ?_) #[true, true, true, true, false, true, true, true, true, false, false, true, false, true, false, true, false, true, false, false, true, true, false, false, true, false, false, false, false, false] rfl rfl (any_of HT_.out (by kernel_rfl)) (fun _ _ _ h => h) (Or.inl ⟨by rfl, ?_⟩) ?_ ?_
         rotate_left
         ·intro w'
          go_simp
          with_reducible rfl
         rotate_left
         ·simp only [Act.put, List.setIfInBounds_toArray, List.set_cons_zero, List.set_cons_succ, i64_w, i32_w, hq3, hq5, hq6, hq7, hq8, hq9]
          rfl
         refine take_ (i := 4) (N := some 47) (v := ?_) (a' := ?_) #[true, true, true, true, true, true, true, true, true, false, false, true, false, true, false, true, false, true, false, false, true, true, false, false, true, false, false, false, false, false] rfl rfl (take_ofW HT_.out HW_.out (by kernel_rfl)) (fun _ _ _ h => h) (Or.inl ⟨by rfl, ?_⟩) hHeld ?_ ?_
         rotate_left
         ·rintro w' ⟨s0, s1, s2, s3, s4, s5, s6⟩
          go_simp
          with_reducible rfl
         rotate_left
         ·simp only [Act.put, List.setIfInBounds_toArray, List.set_cons_zero, List.set_cons_succ, i64_w, i32_w, hq3, hq5, hq6, hq7, hq8, hq9]
          rfl
         refine take_ (i := 9) (N := some 52) (v := ?_) (a' := ?_) #[true, true, true, true, true, true, true, true, true, true, false, true, false, true, false, true, false, true, false, false, true, true, false, false, true, false, false, false, false, false] rfl rfl (take_ofW HT_.out HW_.out (by kernel_rfl)) (fun _ _ _ h => h) (Or.inl ⟨by rfl, ?_⟩) hHeld ?_ ?_
         rotate_left
         ·rintro w' ⟨s0, s1, s2, s3, s4, s5, s6⟩
          go_simp
          with_reducible rfl
         rotate_left
         ·simp only [Act.put, List.setIfInBounds_toArray, List.set_cons_zero, List.set_cons_succ, i64_w, i32_w, hq3, hq5, hq6, hq7, hq8, hq9]
          rfl
         refine pure_ (i := 10) (N := some 53) (v := ?_) (a' := ?_) #[true, true, true, true, true, true, true, true, true, true, true, true, false, true, false, true, false, true, false, false, true, true, false, false, true, false, false, false, false, false] rfl rfl (any_of HT_.out (by kernel_rfl)) (fun _ _ _ h => h) (Or.inl ⟨by rfl, ?_⟩) ?_ ?_
         rotate_left
         ·intro w'
          go_simp
          with_reducible rfl
         rotate_left
         ·simp only [Act.put, List.setIfInBounds_toArray, List.set_cons_zero, List.set_cons_succ, i64_w, i32_w, hq3, hq5, hq6, hq7, hq8, hq9]
          rfl
         refine pure_ (i := 12) (N := some 55) (v := ?_) (a' := ?_) #[true, true, true, true, true, true, true, true, true, true, true, true, true, true, false, true, false, true, false, false, true, true, false, false, true, false, false, false, false, false] rfl rfl (any_of HT_.out (by kernel_rfl)) (fun _ _ _ h => h) (Or.inl ⟨by rfl, ?_⟩) ?_ ?_
         rotate_left
         ·intro w'
          go_simp
          with_reducible rfl
         rotate_left
         ·simp only [Act.put, List.setIfInBounds_toArray, List.set_cons_zero, List.set_cons_succ, i64_w, i32_w, hq3, hq5, hq6, hq7, hq8, hq9]
          rfl
         refine pure_ (i := 14) (N := some 57) (v := ?_) (a' := ?_) #[true, true, true, true, true, true, true, true, true, true, true, true, true, true, true, true, false, true, false, false, true, true, false, false, true, false, false, false, false, false] rfl rfl (any_of HT_.out (by kernel_rfl)) (fun _ _ _ h => h) (Or.inl ⟨by rfl, ?_⟩) ?_ ?_
         rotate_left
         ·intro w'
          go_simp
          with_reducible rfl
         rotate_left
         ·simp only [Act.put, List.setIfInBounds_toArray, List.set_cons_zero, List.set_cons_succ, i64_w, i32_w, hq3, hq5, hq6, hq7, hq8, hq9]
          rfl
         refine take_ (i := 16) (N := some 59) (v := ?_) (a' := ?_) #[true, true, true, true, true, true, true, true, true, true, true, true, true, true, true, true, true, true, false, false, true, true, false, false, true, false, false, false, false, false] rfl rfl (take_ofW HT_.out HW_.out (by kernel_rfl)) (fun _ _ _ h => h) (Or.inl ⟨by rfl, ?_⟩) hHeld ?_ ?_
         rotate_left
         ·rintro w' ⟨s0, s1, s2, s3, s4, s5, s6⟩
          go_simp
          with_reducible rfl
         rotate_left
         ·simp only [Act.put, List.setIfInBounds_toArray, List.set_cons_zero, List.set_cons_succ, i64_w, i32_w, hq3, hq5, hq6, hq7, hq8, hq9]
          rfl
         refine pure_ (i := 18) (N := some 61) (v := ?_) (a' := ?_) #[true, true, true, true, true, true, true, true, true, true, true, true, true, true, true, true, true, true, true, false, true, true, false, false, true, false, false, false, false, false] rfl rfl (any_of HT_.out (by kernel_rfl)) (fun _ _ _ h => h) (Or.inl ⟨by rfl, ?_⟩) ?_ ?_
         rotate_left
         ·intro w'
          go_simp
          with_reducible rfl
         rotate_left
         ·simp only [Act.put, List.setIfInBounds_toArray, List.set_cons_zero, List.set_cons_succ, i64_w, i32_w, hq3, hq5, hq6, hq7, hq8, hq9]
          rfl
         refine take_ (i := 19) (N := some 62) (v := ?_) (a' := ?_) #[true, true, true, true, true, true, true, true, true, true, true, true, true, true, true, true, true, true, true, true, true, true, false, false, true, false, false, false, false, false] rfl rfl (take_ofW HT_.out HW_.out (by kernel_rfl)) (fun _ _ _ h => h) (Or.inl ⟨by rfl, ?_⟩) hHeld ?_ ?_
         rotate_left
         ·rintro w' ⟨s0, s1, s2, s3, s4, s5, s6⟩
          go_simp
          with_reducible rfl
         rotate_left
         ·simp only [Act.put, List.setIfInBounds_toArray, List.set_cons_zero, List.set_cons_succ, i64_w, i32_w, hq3, hq5, hq6, hq7, hq8, hq9]
          rfl
         refine take_ (i := 22) (N := some 65) (v := ?_) (a' := ?_) #[true, true, true, true, true, true, true, true, true, true, true, true, true, true, true, true, true, true, true, true, true, true, true, false, true, false, false, false, false, false] rfl rfl (take_ofW HT_.out HW_.out (by kernel_rfl)) (fun _ _ _ h => h) (Or.inl ⟨by rfl, ?_⟩) hHeld ?_ ?_
         rotate_left
         ·rintro w' ⟨s0, s1, s2, s3, s4, s5, s6⟩
          go_simp
          with_reducible rfl
         rotate_left
         ·simp only [Act.put, List.setIfInBounds_toArray, List.set_cons_zero, List.set_cons_succ, i64_w, i32_w, hq3, hq5, hq6, hq7, hq8, hq9]
          rfl
         refine pure_ (i := 23) (N := some 66) (v := ?_) (a' := ?_) #[true, true, true, true, true, true, true, true, true, true, true, true, true, true, true, true, true, true, true, true, true, true, true, true, true, false, false, false, false, false] rfl rfl (any_of HT_.out (by kernel_rfl)) (fun _ _ _ h => h) (Or.inl ⟨by rfl, ?_⟩) ?_ ?_
         rotate_left
         ·intro w'
          go_simp
          with_reducible rfl
         rotate_left
         ·simp only [Act.put, List.setIfInBounds_toArray, List.set_cons_zero, List.set_cons_succ, i64_w, i32_w, hq3, hq5, hq6, hq7, hq8, hq9]
          rfl
         refine pure_ (i := 25) (N := some 68) (v := ?_) (a' := ?_) #[true, true, true, true, true, true, true, true, true, true, true, true, true, true, true, true, true, true, true, true, true, true, true, true, true, true, false, false, false, false] rfl rfl (any_of HT_.out (by kernel_rfl)) (fun _ _ _ h => h) (Or.inl ⟨by rfl, ?_⟩) ?_ ?_
         rotate_left
         ·intro w'
          go_simp
          with_reducible rfl
         rotate_left
         ·simp only [Act.put, List.setIfInBounds_toArray, List.set_cons_zero, List.set_cons_succ, i64_w, i32_w, hq3, hq5, hq6, hq7, hq8, hq9]
          rfl
         refine pure_ (i := 26) (N := some 69) (v := ?_) (a' := ?_) #[true, true, true, true, true, true, true, true, true, true, true, true, true, true, true, true, true, true, true, true, true, true, true, true, true, true, true, false, false, false] rfl rfl (any_of HT_.out (by kernel_rfl)) (fun _ _ _ h => h) (Or.inl ⟨by rfl, ?_⟩) ?_ ?_
         rotate_left
         ·intro w'
          go_simp
          with_reducible rfl
         rotate_left
         ·simp only [Act.put, List.setIfInBounds_toArray, List.set_cons_zero, List.set_cons_succ, i64_w, i32_w, hq3, hq5, hq6, hq7, hq8, hq9]
          rfl
         refine take_ (i := 27) (N := some 70) (v := ?_) (a' := ?_) #[true, true, true, true, true, true, true, true, true, true, true, true, true, true, true, true, true, true, true, true, true, true, true, true, true, true, true, true, false, false] rfl rfl (take_ofW HT_.out HW_.out (by kernel_rfl)) (fun _ _ _ h => h) (Or.inl ⟨by rfl, ?_⟩) hHeld ?_ ?_
         rotate_left
         ·rintro w' ⟨s0, s1, s2, s3, s4, s5, s6⟩
          go_simp
          with_reducible rfl
         rotate_left
         ·simp only [Act.put, List.setIfInBounds_toArray, List.set_cons_zero, List.set_cons_succ, i64_w, i32_w, hq3, hq5, hq6, hq7, hq8, hq9]
          rfl
         refine pure_ (i := 28) (N := some 71) (v := ?_) (a' := ?_) #[true, true, true, true, true, true, true, true, true, true, true, true, true, true, true, true, true, true, true, true, true, true, true, true, true, true, true, true, true, false] rfl rfl (any_of HT_.out (by kernel_rfl)) (fun _ _ _ h => h) (Or.inl ⟨by rfl, ?_⟩) ?_ ?_
         rotate_left
         ·intro w'
          go_simp
          with_reducible rfl
         rotate_left
         ·simp only [Act.put, List.setIfInBounds_toArray, List.set_cons_zero, List.set_cons_succ, i64_w, i32_w, hq3, hq5, hq6, hq7, hq8, hq9]
          rfl
         refine last_ (i := 29) (N := none) #[true, true, true, true, true, true, true, true, true, true, true, true, true, true, true, true, true, true, true, true, true, true, true, true, true, true, true, true, true, true] rfl rfl (one_of HT_.out (by kernel_rfl)) (by decide) (fun K hK => ?_)
         refine skip_ (w1 := ?_) (by rfl) rfl ?_ ?_
         rotate_left
         ·go_simp
          rfl
         refine hK.out _ _ ?_
         clear hK K
         refine done_ (done_of HT_.out (by kernel_rfl)) ?_
         go_wp2
         go_roundg kq3
         case measure => omega
         case rel => exact ⟨i + 1, congrArg _ HW.out.1, ⟨by have := HI.out; omega, by have := HI.out; omega⟩, ⟨by rw [HW.out.2, ← Nat.add_assoc]; exact HS3.out⟩, ⟨Kd.F_far HF.out (fun k hk he => by have he : k = gq := he; have := HBQ.out; omega) _⟩, ⟨bkf BKg4.out (ne_types BKg4.out HCQ.out (by decide)) _⟩, ⟨bkf BKg5.out (ne_types BKg5.out HCQ.out (by decide)) _⟩, ⟨HB.out.setCell HBQ.out _⟩, ⟨KeepTy.set HK.out HCQ.out _ _⟩⟩
theorem item_put.calls' (cw ch cb : Int) (g n cc : Nat) (ps : List (List Int)) (mw mh mb : Int) (A : Option Addr) (nm cm : Nat) (ms : List (List Int)) (x y : Int) (w : World) (NB : Nat) (ok : Nat → Prop) (hnm : nm = n)
  (hS : Kd.S (Kd.slice 3 (Kd.int .i64)) 39 w NB ok (.slice (some ⟨g, 0, none⟩) n cc) ps) (hF : Kd.F (Kd.slice 3 (Kd.int .i64)) w (fun k => k < NB) A nm ms) (hN : NB ≤ w.heap.size) (hn : 0 < n ∧ n ≤ 1000)
  (hb : 1 ≤ cw ∧ cw ≤ 1000 ∧ 1 ≤ ch ∧ ch ≤ 1000 ∧ 1 ≤ mw ∧ mw ≤ 1000 ∧ 1 ≤ mh ∧ mh ≤ 1000 ∧ -1000000 ≤ x ∧ x ≤ 1000000 ∧ -1000000 ≤ y ∧ y ≤ 1000000) (hps : ∀ r ∈ ps, r.length = cw.toNat * ch.toNat) (hms : ∀ r ∈ ms, r.length = mw.toNat * mh.toNat) :
  Calls Tryz.prog 68 #[.agg #[.int .i64 cw, .int .i64 ch, .int .i64 cb, .slice (some ⟨g, 0, none⟩) n cc], .agg #[.int .i64 mw, .int .i64 mh, .int .i64 mb, .slice A nm cm], .int .i64 x, .int .i64 y] w fun e w' => e = .returned (.tuple #[]) ∧
   Kd.S (Kd.slice 3 (Kd.int .i64)) 39 w' NB ok (.slice (some ⟨g, 0, none⟩) n cc) (putP cw ch x y mw.toNat (mw.toNat * mh.toNat) ps ms) ∧ Below NB w w' ∧ KeepTy w w' := by
 subst hnm
 exact item_put.calls cw ch cb g nm cc ps mw mh mb A cm ms x y w NB ok hS hF hN hn hb hps hms
end Go.Proofs.YtphkionjjhhhlaaGreat.Q
end
