/- Lemmas and walks of this proof (part 2). -/
import Derived.Laws.Bits64b
import Derived.Laws.EntriesVeiled
import Derived.Test.YtphkionjjhhhlaaGreatCParts1
set_option linter.unusedVariables false
set_option linter.unusedSimpArgs false
section
namespace Go.Proofs.YtphkionjjhhhlaaGreat.Q
open Go.RowKit Go.Proofs.YtphkionjjhhhlaaGreatW.PrintWords Go.Proofs.YtphkionjjhhhlaaGreatW.PrintLast Go.Proofs.YtphkionjjhhhlaaGreatW.PrintMore
def r00_EqImage.f (k : Nat) (a0_0 : Int) (a0_1 : Int) (a0_2 : Int) (l0_3 : List (List Int)) (a1_0 : Int) (a1_1 : Int) (a1_2 : Int) (l1_3 : List (List Int)) : Option (Bool) := if a0_0 = a1_0 then (if a0_1 = a1_1 then (if a0_2 = a1_2 then ((r00_EqRows.f k l0_3 l1_3).bind fun t202 => (some t202)) else (some false)) else (some false)) else (some false)
set_option maxHeartbeats 8000000 in
set_option maxRecDepth 100000 in
theorem r00_EqImage.calls (k : Nat) (a0_0 : Int) (a0_1 : Int) (a0_2 : Int) (A0_3 : Option Addr) (c0_3 : Nat) (l0_3 : List (List Int)) (a1_0 : Int) (a1_1 : Int) (a1_2 : Int) (A1_3 : Option Addr) (c1_3 : Nat) (l1_3 : List (List Int)) (r : Bool) (w : World) (hr0_3 : Kd.C (Kd.slice 3 (Kd.int .i64)) w A0_3 l0_3.length l0_3) (hc0_3 : l0_3.length ≤ c0_3) (hr1_3 : Kd.C (Kd.slice 3 (Kd.int .i64)) w A1_3 l1_3.length l1_3) (hc1_3 : l1_3.length ≤ c1_3) (h : r00_EqImage.f k a0_0 a0_1 a0_2 l0_3 a1_0 a1_1 a1_2 l1_3 = some r) :
  Calls Tryz.prog 15 #[.agg #[.int .i64 a0_0, .int .i64 a0_1, .int .i64 a0_2, .slice A0_3 l0_3.length c0_3], .agg #[.int .i64 a1_0, .int .i64 a1_1, .int .i64 a1_2, .slice A1_3 l1_3.length c1_3]] w fun e w' => e = .returned (.bool r) ∧ Below w.heap.size w w' := by
 have hu24 := Tryz.underlying24
 have HR0_3 := As0.mk hr0_3
 have HC0_3 := As0.mk hc0_3
 clear hr0_3 hc0_3
 have HR1_3 := As0.mk hr1_3
 have HC1_3 := As0.mk hc1_3
 clear hr1_3 hc1_3
 have HB := As0.mk (Below.refl w.heap.size w)
 have H : (if a0_0 = a1_0 then (if a0_1 = a1_1 then (if a0_2 = a1_2 then ((r00_EqRows.f k l0_3 l1_3).bind fun t202 => (some t202)) else (some false)) else (some false)) else (some false)) = some r := h
 clear h
 by_cases c3 : a0_0 = a1_0
 ·rw [if_pos c3] at H
  have c3b0 : (a0_0 == a1_0) = true := beq_iff_eq.mpr c3
  have c3b1 : (a0_0 != a1_0) = false := bne_eq_false_iff_eq.mpr c3
  clear c3
  by_cases c4 : a0_1 = a1_1
  ·rw [if_pos c4] at H
   have c4b0 : (a0_1 == a1_1) = true := beq_iff_eq.mpr c4
   have c4b1 : (a0_1 != a1_1) = false := bne_eq_false_iff_eq.mpr c4
   clear c4
   by_cases c5 : a0_2 = a1_2
   ·rw [if_pos c5] at H
    have c5b0 : (a0_2 == a1_2) = true := beq_iff_eq.mpr c5
    have c5b1 : (a0_2 != a1_2) = false := bne_eq_false_iff_eq.mpr c5
    clear c5
    replace H := Option.bind_eq_some_iff.mp H
    obtain ⟨t202, A60, H⟩ := H
    replace H : (some t202) = some r := H
    have A6 := As0.mk A60
    clear A60
    obtain rfl := Option.some.inj H
    go_enter Tryz.func15, Tryz.ntmps15
    go_wp2_with (first | ((with_reducible refine gdt (N := 2) rfl ?_); refine bxe ?hg (N := 2) ?hd (cs := #[.int .i64 a0_0, .int .i64 a0_1, .int .i64 a0_2, .slice A0_3 l0_3.length c0_3]) (t := 24) ?hr ?_; (case hd => rfl); (case hg => rfl); (case hr => first | (go_simp; done) | (go_simp; rfl)); intro gb200 hg w7 hbox hb; have n0_ := As0.mk (bwp (by repeat (first | (with_reducible first | exact HB.out | apply bwa | apply pwN | apply bwd) | exact HB.out)) hb); have n1_ := As0.mk (hbox); have n2_ := As0.mk ((by rw [hg]; exact (bwz (by repeat (first | (with_reducible first | exact HB.out | apply bwa | apply pwN | apply bwd) | exact HB.out))) : w.heap.size ≤ gb200)); have n3_ := As0.mk ((by rw [hg]; exact (bwz (by repeat (first | (with_reducible first | exact HB.out | apply bwa | apply pwN | apply bwd) | exact HB.out))) : w.heap.size ≤ gb200)); clear HB; have HB := n0_; have BK200 := n1_; have GW200 := n2_; have GE200 := n3_; clear n0_ n1_ n2_ n3_; clear hb hbox hg) | ((with_reducible refine gdt (N := 3) rfl ?_); refine bxe ?hg (N := 3) ?hd (cs := #[.int .i64 a1_0, .int .i64 a1_1, .int .i64 a1_2, .slice A1_3 l1_3.length c1_3]) (t := 24) ?hr ?_; (case hd => rfl); (case hg => rfl); (case hr => first | (go_simp; done) | (go_simp; rfl)); intro gb201 hg w8 hbox hb; have n0_ := As0.mk (bkb (g := gb200) (o := .cells #[.int .i64 a0_0, .int .i64 a0_1, .int .i64 a0_2, .slice A0_3 l0_3.length c0_3] 24 (0, 0)) (by (with_reducible repeat (first | refine bkN ?_ _ | refine bkd ?_ | refine bka ?_ _)); exact BK200.out) hb); have n1_ := As0.mk (bwp (by repeat (first | (with_reducible first | exact HB.out | apply bwa | apply pwN | apply bwd | refine bws ?_ GE200.out) | exact HB.out)) hb); have n2_ := As0.mk (hbox); have n3_ := As0.mk ((by rw [hg]; exact (bwz (by repeat (first | (with_reducible first | exact HB.out | apply bwa | apply pwN | apply bwd | refine bws ?_ GE200.out) | exact HB.out))) : w.heap.size ≤ gb201)); have n4_ := As0.mk ((by rw [hg]; exact (bwz (by repeat (first | (with_reducible first | exact HB.out | apply bwa | apply pwN | apply bwd | refine bws ?_ GE200.out) | exact HB.out))) : w.heap.size ≤ gb201)); have n5_ := As0.mk ((by rw [hg]; exact Nat.ne_of_lt (blk_lt (g := gb200) (o := .cells #[.int .i64 a0_0, .int .i64 a0_1, .int .i64 a0_2, .slice A0_3 l0_3.length c0_3] 24 (0, 0)) (by (with_reducible repeat (first | refine bkN ?_ _ | refine bkd ?_ | refine bka ?_ _)); exact BK200.out)) : gb200 ≠ gb201)); have n6_ := As0.mk ((by rw [hg]; exact Nat.ne_of_gt (blk_lt (g := gb200) (o := .cells #[.int .i64 a0_0, .int .i64 a0_1, .int .i64 a0_2, .slice A0_3 l0_3.length c0_3] 24 (0, 0)) (by (with_reducible repeat (first | refine bkN ?_ _ | refine bkd ?_ | refine bka ?_ _)); exact BK200.out)) : gb201 ≠ gb200)); clear BK200; clear HB; have BK200 := n0_; have HB := n1_; have BK201 := n2_; have GW201 := n3_; have GE201 := n4_; have NB200_201 := n5_; have NB201_200 := n6_; clear n0_ n1_ n2_ n3_ n4_ n5_ n6_; clear hb hbox hg; have hnb9 := NB200_201.out; have hnc9 := NB201_200.out; have hcz10_0 : w8.cell? ⟨gb200, 0, none⟩ = some (.int .i64 a0_0) := (bkc BK200.out 0).trans rfl; have hcz10_1 : w8.cell? ⟨gb200, 1, none⟩ = some (.int .i64 a0_1) := (bkc BK200.out 1).trans rfl; have hcz10_2 : w8.cell? ⟨gb200, 2, none⟩ = some (.int .i64 a0_2) := (bkc BK200.out 2).trans rfl; have hcz10_3 : w8.cell? ⟨gb200, 3, none⟩ = some (.slice A0_3 l0_3.length c0_3) := (bkc BK200.out 3).trans rfl; have hfz10_0 := bkz BK200.out 0; have hfz10_1 := bkz BK200.out 1; have hfz10_2 := bkz BK200.out 2; have hfz10_3 := bkz BK200.out 3; have hcz11_0 : w8.cell? ⟨gb201, 0, none⟩ = some (.int .i64 a1_0) := (bkc BK201.out 0).trans rfl; have hcz11_1 : w8.cell? ⟨gb201, 1, none⟩ = some (.int .i64 a1_1) := (bkc BK201.out 1).trans rfl; have hcz11_2 : w8.cell? ⟨gb201, 2, none⟩ = some (.int .i64 a1_2) := (bkc BK201.out 2).trans rfl; have hcz11_3 : w8.cell? ⟨gb201, 3, none⟩ = some (.slice A1_3 l1_3.length c1_3) := (bkc BK201.out 3).trans rfl; have hfz11_0 := bkz BK201.out 0; have hfz11_1 := bkz BK201.out 1; have hfz11_2 := bkz BK201.out 2; have hfz11_3 := bkz BK201.out 3) | (go_at_call 52; (with_reducible refine (r00_EqRows.calls k _ _ l0_3 _ _ l1_3 t202 _ ?side1 ?side2 ?side3 ?side4 A6.out).mono ?_); (case side1 => repeat (first | exact (Kd.C_below HR0_3.out HB.out) | (with_reducible refine Kd.C_alloc ?_ _) | (with_reducible refine Kd.C_drewN ?_ _) | (with_reducible refine Kd.C_drew ?_))); (case side2 => exact HC0_3.out); (case side3 => repeat (first | exact (Kd.C_below HR1_3.out HB.out) | (with_reducible refine Kd.C_alloc ?_ _) | (with_reducible refine Kd.C_drewN ?_ _) | (with_reducible refine Kd.C_drew ?_))); (case side4 => exact HC1_3.out); rintro e w' ⟨rfl, ⟨nd, rfl⟩⟩))
    go_ret
    exact ⟨by first | rfl | (simp [errW_none, errW_some] <;> rfl) | (simp [*, errW_none, errW_some] <;> rfl), by repeat (first | (with_reducible first | exact HB.out | apply bwa | apply pwN | apply bwd | refine bws ?_ GE200.out | refine bws ?_ GE201.out) | exact HB.out)⟩
   ·rw [if_neg c5] at H
    have c5b0 : (a0_2 == a1_2) = false := beq_eq_false_iff_ne.mpr c5
    have c5b1 : (a0_2 != a1_2) = true := bne_iff_ne.mpr c5
    obtain rfl := Option.some.inj H
    go_enter Tryz.func15, Tryz.ntmps15
    go_wp2_with (first | ((with_reducible refine gdt (N := 2) rfl ?_); refine bxe ?hg (N := 2) ?hd (cs := #[.int .i64 a0_0, .int .i64 a0_1, .int .i64 a0_2, .slice A0_3 l0_3.length c0_3]) (t := 24) ?hr ?_; (case hd => rfl); (case hg => rfl); (case hr => first | (go_simp; done) | (go_simp; rfl)); intro gb200 hg w12 hbox hb; have n0_ := As0.mk (bwp (by repeat (first | (with_reducible first | exact HB.out | apply bwa | apply pwN | apply bwd) | exact HB.out)) hb); have n1_ := As0.mk (hbox); have n2_ := As0.mk ((by rw [hg]; exact (bwz (by repeat (first | (with_reducible first | exact HB.out | apply bwa | apply pwN | apply bwd) | exact HB.out))) : w.heap.size ≤ gb200)); have n3_ := As0.mk ((by rw [hg]; exact (bwz (by repeat (first | (with_reducible first | exact HB.out | apply bwa | apply pwN | apply bwd) | exact HB.out))) : w.heap.size ≤ gb200)); clear HB; have HB := n0_; have BK200 := n1_; have GW200 := n2_; have GE200 := n3_; clear n0_ n1_ n2_ n3_; clear hb hbox hg) | ((with_reducible refine gdt (N := 3) rfl ?_); refine bxe ?hg (N := 3) ?hd (cs := #[.int .i64 a1_0, .int .i64 a1_1, .int .i64 a1_2, .slice A1_3 l1_3.length c1_3]) (t := 24) ?hr ?_; (case hd => rfl); (case hg => rfl); (case hr => first | (go_simp; done) | (go_simp; rfl)); intro gb201 hg w13 hbox hb; have n0_ := As0.mk (bkb (g := gb200) (o := .cells #[.int .i64 a0_0, .int .i64 a0_1, .int .i64 a0_2, .slice A0_3 l0_3.length c0_3] 24 (0, 0)) (by (with_reducible repeat (first | refine bkN ?_ _ | refine bkd ?_ | refine bka ?_ _)); exact BK200.out) hb); have n1_ := As0.mk (bwp (by repeat (first | (with_reducible first | exact HB.out | apply bwa | apply pwN | apply bwd | refine bws ?_ GE200.out) | exact HB.out)) hb); have n2_ := As0.mk (hbox); have n3_ := As0.mk ((by rw [hg]; exact (bwz (by repeat (first | (with_reducible first | exact HB.out | apply bwa | apply pwN | apply bwd | refine bws ?_ GE200.out) | exact HB.out))) : w.heap.size ≤ gb201)); have n4_ := As0.mk ((by rw [hg]; exact (bwz (by repeat (first | (with_reducible first | exact HB.out | apply bwa | apply pwN | apply bwd | refine bws ?_ GE200.out) | exact HB.out))) : w.heap.size ≤ gb201)); have n5_ := As0.mk ((by rw [hg]; exact Nat.ne_of_lt (blk_lt (g := gb200) (o := .cells #[.int .i64 a0_0, .int .i64 a0_1, .int .i64 a0_2, .slice A0_3 l0_3.length c0_3] 24 (0, 0)) (by (with_reducible repeat (first | refine bkN ?_ _ | refine bkd ?_ | refine bka ?_ _)); exact BK200.out)) : gb200 ≠ gb201)); have n6_ := As0.mk ((by rw [hg]; exact Nat.ne_of_gt (blk_lt (g := gb200) (o := .cells #[.int .i64 a0_0, .int .i64 a0_1, .int .i64 a0_2, .slice A0_3 l0_3.length c0_3] 24 (0, 0)) (by (with_reducible repeat (first | refine bkN ?_ _ | refine bkd ?_ | refine bka ?_ _)); exact BK200.out)) : gb201 ≠ gb200)); clear BK200; clear HB; have BK200 := n0_; have HB := n1_; have BK201 := n2_; have GW201 := n3_; have GE201 := n4_; have NB200_201 := n5_; have NB201_200 := n6_; clear n0_ n1_ n2_ n3_ n4_ n5_ n6_; clear hb hbox hg; have hnb14 := NB200_201.out; have hnc14 := NB201_200.out; have hcz15_0 : w13.cell? ⟨gb200, 0, none⟩ = some (.int .i64 a0_0) := (bkc BK200.out 0).trans rfl; have hcz15_1 : w13.cell? ⟨gb200, 1, none⟩ = some (.int .i64 a0_1) := (bkc BK200.out 1).trans rfl; have hcz15_2 : w13.cell? ⟨gb200, 2, none⟩ = some (.int .i64 a0_2) := (bkc BK200.out 2).trans rfl; have hcz15_3 : w13.cell? ⟨gb200, 3, none⟩ = some (.slice A0_3 l0_3.length c0_3) := (bkc BK200.out 3).trans rfl; have hfz15_0 := bkz BK200.out 0; have hfz15_1 := bkz BK200.out 1; have hfz15_2 := bkz BK200.out 2; have hfz15_3 := bkz BK200.out 3; have hcz16_0 : w13.cell? ⟨gb201, 0, none⟩ = some (.int .i64 a1_0) := (bkc BK201.out 0).trans rfl; have hcz16_1 : w13.cell? ⟨gb201, 1, none⟩ = some (.int .i64 a1_1) := (bkc BK201.out 1).trans rfl; have hcz16_2 : w13.cell? ⟨gb201, 2, none⟩ = some (.int .i64 a1_2) := (bkc BK201.out 2).trans rfl; have hcz16_3 : w13.cell? ⟨gb201, 3, none⟩ = some (.slice A1_3 l1_3.length c1_3) := (bkc BK201.out 3).trans rfl; have hfz16_0 := bkz BK201.out 0; have hfz16_1 := bkz BK201.out 1; have hfz16_2 := bkz BK201.out 2; have hfz16_3 := bkz BK201.out 3))
    go_ret
    exact ⟨by first | rfl | (simp [errW_none, errW_some] <;> rfl) | (simp [*, errW_none, errW_some] <;> rfl), by repeat (first | (with_reducible first | exact HB.out | apply bwa | apply pwN | apply bwd | refine bws ?_ GE200.out | refine bws ?_ GE201.out) | exact HB.out)⟩
  ·rw [if_neg c4] at H
   have c4b0 : (a0_1 == a1_1) = false := beq_eq_false_iff_ne.mpr c4
   have c4b1 : (a0_1 != a1_1) = true := bne_iff_ne.mpr c4
   obtain rfl := Option.some.inj H
   go_enter Tryz.func15, Tryz.ntmps15
   go_wp2_with (first | ((with_reducible refine gdt (N := 2) rfl ?_); refine bxe ?hg (N := 2) ?hd (cs := #[.int .i64 a0_0, .int .i64 a0_1, .int .i64 a0_2, .slice A0_3 l0_3.length c0_3]) (t := 24) ?hr ?_; (case hd => rfl); (case hg => rfl); (case hr => first | (go_simp; done) | (go_simp; rfl)); intro gb200 hg w17 hbox hb; have n0_ := As0.mk (bwp (by repeat (first | (with_reducible first | exact HB.out | apply bwa | apply pwN | apply bwd) | exact HB.out)) hb); have n1_ := As0.mk (hbox); have n2_ := As0.mk ((by rw [hg]; exact (bwz (by repeat (first | (with_reducible first | exact HB.out | apply bwa | apply pwN | apply bwd) | exact HB.out))) : w.heap.size ≤ gb200)); have n3_ := As0.mk ((by rw [hg]; exact (bwz (by repeat (first | (with_reducible first | exact HB.out | apply bwa | apply pwN | apply bwd) | exact HB.out))) : w.heap.size ≤ gb200)); clear HB; have HB := n0_; have BK200 := n1_; have GW200 := n2_; have GE200 := n3_; clear n0_ n1_ n2_ n3_; clear hb hbox hg) | ((with_reducible refine gdt (N := 3) rfl ?_); refine bxe ?hg (N := 3) ?hd (cs := #[.int .i64 a1_0, .int .i64 a1_1, .int .i64 a1_2, .slice A1_3 l1_3.length c1_3]) (t := 24) ?hr ?_; (case hd => rfl); (case hg => rfl); (case hr => first | (go_simp; done) | (go_simp; rfl)); intro gb201 hg w18 hbox hb; have n0_ := As0.mk (bkb (g := gb200) (o := .cells #[.int .i64 a0_0, .int .i64 a0_1, .int .i64 a0_2, .slice A0_3 l0_3.length c0_3] 24 (0, 0)) (by (with_reducible repeat (first | refine bkN ?_ _ | refine bkd ?_ | refine bka ?_ _)); exact BK200.out) hb); have n1_ := As0.mk (bwp (by repeat (first | (with_reducible first | exact HB.out | apply bwa | apply pwN | apply bwd | refine bws ?_ GE200.out) | exact HB.out)) hb); have n2_ := As0.mk (hbox); have n3_ := As0.mk ((by rw [hg]; exact (bwz (by repeat (first | (with_reducible first | exact HB.out | apply bwa | apply pwN | apply bwd | refine bws ?_ GE200.out) | exact HB.out))) : w.heap.size ≤ gb201)); have n4_ := As0.mk ((by rw [hg]; exact (bwz (by repeat (first | (with_reducible first | exact HB.out | apply bwa | apply pwN | apply bwd | refine bws ?_ GE200.out) | exact HB.out))) : w.heap.size ≤ gb201)); have n5_ := As0.mk ((by rw [hg]; exact Nat.ne_of_lt (blk_lt (g := gb200) (o := .cells #[.int .i64 a0_0, .int .i64 a0_1, .int .i64 a0_2, .slice A0_3 l0_3.length c0_3] 24 (0, 0)) (by (with_reducible repeat (first | refine bkN ?_ _ | refine bkd ?_ | refine bka ?_ _)); exact BK200.out)) : gb200 ≠ gb201)); have n6_ := As0.mk ((by rw [hg]; exact Nat.ne_of_gt (blk_lt (g := gb200) (o := .cells #[.int .i64 a0_0, .int .i64 a0_1, .int .i64 a0_2, .slice A0_3 l0_3.length c0_3] 24 (0, 0)) (by (with_reducible repeat (first | refine bkN ?_ _ | refine bkd ?_ | refine bka ?_ _)); exact BK200.out)) : gb201 ≠ gb200)); clear BK200; clear HB; have BK200 := n0_; have HB := n1_; have BK201 := n2_; have GW201 := n3_; have GE201 := n4_; have NB200_201 := n5_; have NB201_200 := n6_; clear n0_ n1_ n2_ n3_ n4_ n5_ n6_; clear hb hbox hg; have hnb19 := NB200_201.out; have hnc19 := NB201_200.out; have hcz20_0 : w18.cell? ⟨gb200, 0, none⟩ = some (.int .i64 a0_0) := (bkc BK200.out 0).trans rfl; have hcz20_1 : w18.cell? ⟨gb200, 1, none⟩ = some (.int .i64 a0_1) := (bkc BK200.out 1).trans rfl; have hcz20_2 : w18.cell? ⟨gb200, 2, none⟩ = some (.int .i64 a0_2) := (bkc BK200.out 2).trans rfl; have hcz20_3 : w18.cell? ⟨gb200, 3, none⟩ = some (.slice A0_3 l0_3.length c0_3) := (bkc BK200.out 3).trans rfl; have hfz20_0 := bkz BK200.out 0; have hfz20_1 := bkz BK200.out 1; have hfz20_2 := bkz BK200.out 2; have hfz20_3 := bkz BK200.out 3; have hcz21_0 : w18.cell? ⟨gb201, 0, none⟩ = some (.int .i64 a1_0) := (bkc BK201.out 0).trans rfl; have hcz21_1 : w18.cell? ⟨gb201, 1, none⟩ = some (.int .i64 a1_1) := (bkc BK201.out 1).trans rfl; have hcz21_2 : w18.cell? ⟨gb201, 2, none⟩ = some (.int .i64 a1_2) := (bkc BK201.out 2).trans rfl; have hcz21_3 : w18.cell? ⟨gb201, 3, none⟩ = some (.slice A1_3 l1_3.length c1_3) := (bkc BK201.out 3).trans rfl; have hfz21_0 := bkz BK201.out 0; have hfz21_1 := bkz BK201.out 1; have hfz21_2 := bkz BK201.out 2; have hfz21_3 := bkz BK201.out 3))
   go_ret
   exact ⟨by first | rfl | (simp [errW_none, errW_some] <;> rfl) | (simp [*, errW_none, errW_some] <;> rfl), by repeat (first | (with_reducible first | exact HB.out | apply bwa | apply pwN | apply bwd | refine bws ?_ GE200.out | refine bws ?_ GE201.out) | exact HB.out)⟩
 ·rw [if_neg c3] at H
  have c3b0 : (a0_0 == a1_0) = false := beq_eq_false_iff_ne.mpr c3
  have c3b1 : (a0_0 != a1_0) = true := bne_iff_ne.mpr c3
  obtain rfl := Option.some.inj H
  go_enter Tryz.func15, Tryz.ntmps15
  go_wp2_with (first | ((with_reducible refine gdt (N := 2) rfl ?_); refine bxe ?hg (N := 2) ?hd (cs := #[.int .i64 a0_0, .int .i64 a0_1, .int .i64 a0_2, .slice A0_3 l0_3.length c0_3]) (t := 24) ?hr ?_; (case hd => rfl); (case hg => rfl); (case hr => first | (go_simp; done) | (go_simp; rfl)); intro gb200 hg w22 hbox hb; have n0_ := As0.mk (bwp (by repeat (first | (with_reducible first | exact HB.out | apply bwa | apply pwN | apply bwd) | exact HB.out)) hb); have n1_ := As0.mk (hbox); have n2_ := As0.mk ((by rw [hg]; exact (bwz (by repeat (first | (with_reducible first | exact HB.out | apply bwa | apply pwN | apply bwd) | exact HB.out))) : w.heap.size ≤ gb200)); have n3_ := As0.mk ((by rw [hg]; exact (bwz (by repeat (first | (with_reducible first | exact HB.out | apply bwa | apply pwN | apply bwd) | exact HB.out))) : w.heap.size ≤ gb200)); clear HB; have HB := n0_; have BK200 := n1_; have GW200 := n2_; have GE200 := n3_; clear n0_ n1_ n2_ n3_; clear hb hbox hg) | ((with_reducible refine gdt (N := 3) rfl ?_); refine bxe ?hg (N := 3) ?hd (cs := #[.int .i64 a1_0, .int .i64 a1_1, .int .i64 a1_2, .slice A1_3 l1_3.length c1_3]) (t := 24) ?hr ?_; (case hd => rfl); (case hg => rfl); (case hr => first | (go_simp; done) | (go_simp; rfl)); intro gb201 hg w23 hbox hb; have n0_ := As0.mk (bkb (g := gb200) (o := .cells #[.int .i64 a0_0, .int .i64 a0_1, .int .i64 a0_2, .slice A0_3 l0_3.length c0_3] 24 (0, 0)) (by (with_reducible repeat (first | refine bkN ?_ _ | refine bkd ?_ | refine bka ?_ _)); exact BK200.out) hb); have n1_ := As0.mk (bwp (by repeat (first | (with_reducible first | exact HB.out | apply bwa | apply pwN | apply bwd | refine bws ?_ GE200.out) | exact HB.out)) hb); have n2_ := As0.mk (hbox); have n3_ := As0.mk ((by rw [hg]; exact (bwz (by repeat (first | (with_reducible first | exact HB.out | apply bwa | apply pwN | apply bwd | refine bws ?_ GE200.out) | exact HB.out))) : w.heap.size ≤ gb201)); have n4_ := As0.mk ((by rw [hg]; exact (bwz (by repeat (first | (with_reducible first | exact HB.out | apply bwa | apply pwN | apply bwd | refine bws ?_ GE200.out) | exact HB.out))) : w.heap.size ≤ gb201)); have n5_ := As0.mk ((by rw [hg]; exact Nat.ne_of_lt (blk_lt (g := gb200) (o := .cells #[.int .i64 a0_0, .int .i64 a0_1, .int .i64 a0_2, .slice A0_3 l0_3.length c0_3] 24 (0, 0)) (by (with_reducible repeat (first | refine bkN ?_ _ | refine bkd ?_ | refine bka ?_ _)); exact BK200.out)) : gb200 ≠ gb201)); have n6_ := As0.mk ((by rw [hg]; exact Nat.ne_of_gt (blk_lt (g := gb200) (o := .cells #[.int .i64 a0_0, .int .i64 a0_1, .int .i64 a0_2, .slice A0_3 l0_3.length c0_3] 24 (0, 0)) (by (with_reducible repeat (first | refine bkN ?_ _ | refine bkd ?_ | refine bka ?_ _)); exact BK200.out)) : gb201 ≠ gb200)); clear BK200; clear HB; have BK200 := n0_; have HB := n1_; have BK201 := n2_; have GW201 := n3_; have GE201 := n4_; have NB200_201 := n5_; have NB201_200 := n6_; clear n0_ n1_ n2_ n3_ n4_ n5_ n6_; clear hb hbox hg; have hnb24 := NB200_201.out; have hnc24 := NB201_200.out; have hcz25_0 : w23.cell? ⟨gb200, 0, none⟩ = some (.int .i64 a0_0) := (bkc BK200.out 0).trans rfl; have hcz25_1 : w23.cell? ⟨gb200, 1, none⟩ = some (.int .i64 a0_1) := (bkc BK200.out 1).trans rfl; have hcz25_2 : w23.cell? ⟨gb200, 2, none⟩ = some (.int .i64 a0_2) := (bkc BK200.out 2).trans rfl; have hcz25_3 : w23.cell? ⟨gb200, 3, none⟩ = some (.slice A0_3 l0_3.length c0_3) := (bkc BK200.out 3).trans rfl; have hfz25_0 := bkz BK200.out 0; have hfz25_1 := bkz BK200.out 1; have hfz25_2 := bkz BK200.out 2; have hfz25_3 := bkz BK200.out 3; have hcz26_0 : w23.cell? ⟨gb201, 0, none⟩ = some (.int .i64 a1_0) := (bkc BK201.out 0).trans rfl; have hcz26_1 : w23.cell? ⟨gb201, 1, none⟩ = some (.int .i64 a1_1) := (bkc BK201.out 1).trans rfl; have hcz26_2 : w23.cell? ⟨gb201, 2, none⟩ = some (.int .i64 a1_2) := (bkc BK201.out 2).trans rfl; have hcz26_3 : w23.cell? ⟨gb201, 3, none⟩ = some (.slice A1_3 l1_3.length c1_3) := (bkc BK201.out 3).trans rfl; have hfz26_0 := bkz BK201.out 0; have hfz26_1 := bkz BK201.out 1; have hfz26_2 := bkz BK201.out 2; have hfz26_3 := bkz BK201.out 3))
  go_ret
  exact ⟨by first | rfl | (simp [errW_none, errW_some] <;> rfl) | (simp [*, errW_none, errW_some] <;> rfl), by repeat (first | (with_reducible first | exact HB.out | apply bwa | apply pwN | apply bwd | refine bws ?_ GE200.out | refine bws ?_ GE201.out) | exact HB.out)⟩
def item_Turn.f (a0_0 : Int) (a0_1 : Int) (a0_2 : Int) (l0_3 : List (List Int)) (a1 : Int) (a2 : Bool) : Option (Int × Int × Int × (List (List Int)) × Int) := (picture_Check.f a0_0 a0_1 a0_2 l0_3).bind fun t117 => (if t117 = 0 then ((item_within.f a1 0 3).bind fun t118 => (if t118 = true then ((item_turned.f a0_0 a0_1 a0_2 l0_3 a1 a2).bind fun bt119 => (some (bt119.1, bt119.2.1, bt119.2.2.1, bt119.2.2.2, 0))) else (some (0, 0, 0, ([] : List (List Int)), 1)))) else (some (0, 0, 0, ([] : List (List Int)), t117)))
set_option maxHeartbeats 8000000 in
set_option maxRecDepth 100000 in
theorem item_Turn.calls (a0_0 : Int) (a0_1 : Int) (a0_2 : Int) (A0_3 : Option Addr) (c0_3 : Nat) (l0_3 : List (List Int)) (a1 : Int) (a2 : Bool) (r1 : Int) (r2 : Int) (r3 : Int) (r4 : List (List Int)) (r5 : Int) (w : World) (hr0_3 : Kd.C (Kd.slice 3 (Kd.int .i64)) w A0_3 l0_3.length l0_3) (hc0_3 : l0_3.length ≤ c0_3) (h : item_Turn.f a0_0 a0_1 a0_2 l0_3 a1 a2 = some (r1, r2, r3, r4, r5)) :
  Calls Tryz.prog 13 #[.agg #[.int .i64 a0_0, .int .i64 a0_1, .int .i64 a0_2, .slice A0_3 l0_3.length c0_3], .int .i64 a1, .bool a2] w fun e w' => ∃ v3_ : Value, e = .returned (.tuple #[.agg #[.int .i64 r1, .int .i64 r2, .int .i64 r3, v3_], .int .i64 r5]) ∧ Kd.S (Kd.slice 3 (Kd.int .i64)) 39 w' w.heap.size (fun _ => True) v3_ r4 ∧ Below w.heap.size w w' := by
 have hu24 := Tryz.underlying24
 have HR0_3 := As0.mk hr0_3
 have HC0_3 := As0.mk hc0_3
 clear hr0_3 hc0_3
 have HB := As0.mk (Below.refl w.heap.size w)
 have H : ((picture_Check.f a0_0 a0_1 a0_2 l0_3).bind fun t117 => (if t117 = 0 then ((item_within.f a1 0 3).bind fun t118 => (if t118 = true then ((item_turned.f a0_0 a0_1 a0_2 l0_3 a1 a2).bind fun bt119 => (some (bt119.1, bt119.2.1, bt119.2.2.1, bt119.2.2.2, 0))) else (some (0, 0, 0, ([] : List (List Int)), 1)))) else (some (0, 0, 0, ([] : List (List Int)), t117)))) = some (r1, r2, r3, r4, r5) := h
 clear h
 replace H := Option.bind_eq_some_iff.mp H
 obtain ⟨t117, A40, H⟩ := H
 replace H : (if t117 = 0 then ((item_within.f a1 0 3).bind fun t118 => (if t118 = true then ((item_turned.f a0_0 a0_1 a0_2 l0_3 a1 a2).bind fun bt119 => (some (bt119.1, bt119.2.1, bt119.2.2.1, bt119.2.2.2, 0))) else (some (0, 0, 0, ([] : List (List Int)), 1)))) else (some (0, 0, 0, ([] : List (List Int)), t117))) = some (r1, r2, r3, r4, r5) := H
 have A4 := As0.mk A40
 clear A40
 by_cases c5 : t117 = 0
 ·rw [if_pos c5] at H
  have c5b0 : (t117 == 0) = true := beq_iff_eq.mpr c5
  have c5b1 : (t117 != 0) = false := bne_eq_false_iff_eq.mpr c5
  clear c5
  replace H := Option.bind_eq_some_iff.mp H
  obtain ⟨t118, A60, H⟩ := H
  replace H : (if t118 = true then ((item_turned.f a0_0 a0_1 a0_2 l0_3 a1 a2).bind fun bt119 => (some (bt119.1, bt119.2.1, bt119.2.2.1, bt119.2.2.2, 0))) else (some (0, 0, 0, ([] : List (List Int)), 1))) = some (r1, r2, r3, r4, r5) := H
  have A6 := As0.mk A60
  clear A60
  by_cases c7 : t118 = true
  ·subst c7
   have H1 : ((item_turned.f a0_0 a0_1 a0_2 l0_3 a1 a2).bind fun bt119 => (some (bt119.1, bt119.2.1, bt119.2.2.1, bt119.2.2.2, 0))) = some (r1, r2, r3, r4, r5) := by rw [if_pos rfl] at H; exact H
   clear H
   have H := H1
   clear H1
   replace H := Option.bind_eq_some_iff.mp H
   obtain ⟨⟨t119, t120, t121, t122⟩, A80, H⟩ := H
   replace H : (some (t119, t120, t121, t122, 0)) = some (r1, r2, r3, r4, r5) := H
   have A8 := As0.mk A80
   clear A80
   simp only [Option.some.injEq, Prod.mk.injEq] at H
   obtain ⟨rfl, rfl, rfl, rfl, rfl⟩ := H
   go_enter Tryz.func13, Tryz.ntmps13
   go_wp2_with (first | ((with_reducible refine gdt (N := 3) rfl ?_); refine bxe ?hg (N := 3) ?hd (cs := #[.int .i64 a0_0, .int .i64 a0_1, .int .i64 a0_2, .slice A0_3 l0_3.length c0_3]) (t := 24) ?hr ?_; (case hd => rfl); (case hg => rfl); (case hr => first | (go_simp; done) | (go_simp; rfl)); intro gb115 hg w9 hbox hb; have n0_ := As0.mk (bwp (by repeat (first | (with_reducible first | exact HB.out | apply bwa | apply pwN | apply bwd) | exact HB.out)) hb); have n1_ := As0.mk (hbox); have n2_ := As0.mk ((by rw [hg]; exact (bwz (by repeat (first | (with_reducible first | exact HB.out | apply bwa | apply pwN | apply bwd) | exact HB.out))) : w.heap.size ≤ gb115)); have n3_ := As0.mk ((by rw [hg]; exact (bwz (by repeat (first | (with_reducible first | exact HB.out | apply bwa | apply pwN | apply bwd) | exact HB.out))) : w.heap.size ≤ gb115)); clear HB; have HB := n0_; have BK115 := n1_; have GW115 := n2_; have GE115 := n3_; clear n0_ n1_ n2_ n3_; clear hb hbox hg) | ((with_reducible refine gdt (N := 6) rfl ?_); refine bxe ?hg (N := 6) ?hd (cs := #[.int .i64 0, .int .i64 0, .int .i64 0, .slice none 0 0]) (t := 24) ?hr ?_; (case hd => rfl); (case hg => rfl); (case hr => first | (go_simp; done) | (go_simp; rfl)); intro gb116 hg w10 hbox hb; have n0_ := As0.mk (bkb (g := gb115) (o := .cells #[.int .i64 a0_0, .int .i64 a0_1, .int .i64 a0_2, .slice A0_3 l0_3.length c0_3] 24 (0, 0)) (by (with_reducible repeat (first | refine bkN ?_ _ | refine bkd ?_ | refine bka ?_ _)); exact BK115.out) hb); have n1_ := As0.mk (bwp (by repeat (first | (with_reducible first | exact HB.out | apply bwa | apply pwN | apply bwd | refine bws ?_ GE115.out) | exact HB.out)) hb); have n2_ := As0.mk (hbox); have n3_ := As0.mk ((by rw [hg]; exact (bwz (by repeat (first | (with_reducible first | exact HB.out | apply bwa | apply pwN | apply bwd | refine bws ?_ GE115.out) | exact HB.out))) : w.heap.size ≤ gb116)); have n4_ := As0.mk ((by rw [hg]; exact (bwz (by repeat (first | (with_reducible first | exact HB.out | apply bwa | apply pwN | apply bwd | refine bws ?_ GE115.out) | exact HB.out))) : w.heap.size ≤ gb116)); have n5_ := As0.mk ((by rw [hg]; exact Nat.ne_of_lt (blk_lt (g := gb115) (o := .cells #[.int .i64 a0_0, .int .i64 a0_1, .int .i64 a0_2, .slice A0_3 l0_3.length c0_3] 24 (0, 0)) (by (with_reducible repeat (first | refine bkN ?_ _ | refine bkd ?_ | refine bka ?_ _)); exact BK115.out)) : gb115 ≠ gb116)); have n6_ := As0.mk ((by rw [hg]; exact Nat.ne_of_gt (blk_lt (g := gb115) (o := .cells #[.int .i64 a0_0, .int .i64 a0_1, .int .i64 a0_2, .slice A0_3 l0_3.length c0_3] 24 (0, 0)) (by (with_reducible repeat (first | refine bkN ?_ _ | refine bkd ?_ | refine bka ?_ _)); exact BK115.out)) : gb116 ≠ gb115)); clear BK115; clear HB; have BK115 := n0_; have HB := n1_; have BK116 := n2_; have GW116 := n3_; have GE116 := n4_; have NB115_116 := n5_; have NB116_115 := n6_; clear n0_ n1_ n2_ n3_ n4_ n5_ n6_; clear hb hbox hg; have hnb11 := NB115_116.out; have hnc11 := NB116_115.out; have hcz12_0 : w10.cell? ⟨gb115, 0, none⟩ = some (.int .i64 a0_0) := (bkc BK115.out 0).trans rfl; have hcz12_1 : w10.cell? ⟨gb115, 1, none⟩ = some (.int .i64 a0_1) := (bkc BK115.out 1).trans rfl; have hcz12_2 : w10.cell? ⟨gb115, 2, none⟩ = some (.int .i64 a0_2) := (bkc BK115.out 2).trans rfl; have hcz12_3 : w10.cell? ⟨gb115, 3, none⟩ = some (.slice A0_3 l0_3.length c0_3) := (bkc BK115.out 3).trans rfl; have hfz12_0 := bkz BK115.out 0; have hfz12_1 := bkz BK115.out 1; have hfz12_2 := bkz BK115.out 2; have hfz12_3 := bkz BK115.out 3) | ((with_reducible refine gate_callee (f := 47) rfl ?_); refine goesL_ (some 10) rfl rfl Tryz.func47 (by kernel_rfl) rfl #[.agg #[.int .i64 a0_0, .int .i64 a0_1, .int .i64 a0_2, .slice A0_3 l0_3.length c0_3]] rfl (by (try simp only [List.map_toArray, List.map_cons, List.map_nil]); first | done | rfl | (simp only [List.length_drop, List.length_take]; rfl)) ?_; (with_reducible refine (picture_Check.calls a0_0 a0_1 a0_2 _ _ l0_3 t117 _ ?side1 ?side2 A4.out).mono ?_); (case side1 => repeat (first | exact (Kd.C_below HR0_3.out HB.out) | (with_reducible refine Kd.C_alloc ?_ _) | (with_reducible refine Kd.C_drewN ?_ _) | (with_reducible refine Kd.C_drew ?_))); (case side2 => exact HC0_3.out); rintro e w13 ⟨rfl, hb⟩; refine ⟨_, rfl, ?_⟩; have n0_ := As0.mk (bkb (g := gb115) (o := .cells #[.int .i64 a0_0, .int .i64 a0_1, .int .i64 a0_2, .slice A0_3 l0_3.length c0_3] 24 (0, 0)) (by (with_reducible repeat (first | refine bkN ?_ _ | refine bkd ?_ | refine bka ?_ _)); exact BK115.out) hb); have n1_ := As0.mk (bkb (g := gb116) (o := .cells #[.int .i64 0, .int .i64 0, .int .i64 0, .slice none 0 0] 24 (0, 0)) (by (with_reducible repeat (first | refine bkN ?_ _ | refine bkd ?_ | refine bka ?_ _)); exact BK116.out) hb); have n2_ := As0.mk (bwp (by repeat (first | (with_reducible first | exact HB.out | apply bwa | apply pwN | apply bwd | refine bws ?_ GE115.out | refine bws ?_ GE116.out) | exact HB.out)) hb); clear BK115; clear BK116; clear HB; have BK115 := n0_; have BK116 := n1_; have HB := n2_; clear n0_ n1_ n2_; (try clear hb); (try clear hb2); (try clear hk); (try clear hi)) | ((with_reducible refine gate_callee (f := 48) rfl ?_); refine goesL_ (some 16) rfl rfl Tryz.func48 (by kernel_rfl) rfl #[.int .i64 a1, .int .i64 0, .int .i64 3] rfl (by (try simp only [List.map_toArray, List.map_cons, List.map_nil]); first | done | rfl | (simp only [List.length_drop, List.length_take]; rfl)) ?_; (with_reducible refine (item_within.calls a1 0 3 true _ A6.out).mono ?_); rintro e w' ⟨rfl, ⟨nd, rfl⟩⟩; refine ⟨_, rfl, ?_⟩; (try (rw [drewN_self w13]; generalize hq_ : World.drewN w13 _ = w13; have n0_ : As0 (w13.heap[gb115]? = some (.cells #[.int .i64 a0_0, .int .i64 a0_1, .int .i64 a0_2, .slice A0_3 l0_3.length c0_3] 24 (0, 0))) := ⟨by rw [← hq_]; exact (by (with_reducible repeat (first | refine bkN ?_ _ | refine bkd ?_ | refine bka ?_ _)); exact BK115.out)⟩; have n1_ : As0 (w13.heap[gb116]? = some (.cells #[.int .i64 0, .int .i64 0, .int .i64 0, .slice none 0 0] 24 (0, 0))) := ⟨by rw [← hq_]; exact (by (with_reducible repeat (first | refine bkN ?_ _ | refine bkd ?_ | refine bka ?_ _)); exact BK116.out)⟩; have n2_ : As0 (Below w.heap.size w w13) := ⟨by rw [← hq_]; exact (by repeat (first | (with_reducible first | exact HB.out | apply bwa | apply pwN | apply bwd | refine bws ?_ GE115.out | refine bws ?_ GE116.out) | exact HB.out))⟩; clear BK115 BK116 HB hq_; have BK115 := n0_; have BK116 := n1_; have HB := n2_; clear n0_ n1_ n2_)); have hcz14_0 : w13.cell? ⟨gb115, 0, none⟩ = some (.int .i64 a0_0) := (bkc BK115.out 0).trans rfl; have hcz14_1 : w13.cell? ⟨gb115, 1, none⟩ = some (.int .i64 a0_1) := (bkc BK115.out 1).trans rfl; have hcz14_2 : w13.cell? ⟨gb115, 2, none⟩ = some (.int .i64 a0_2) := (bkc BK115.out 2).trans rfl; have hcz14_3 : w13.cell? ⟨gb115, 3, none⟩ = some (.slice A0_3 l0_3.length c0_3) := (bkc BK115.out 3).trans rfl; have hfz14_0 := bkz BK115.out 0; have hfz14_1 := bkz BK115.out 1; have hfz14_2 := bkz BK115.out 2; have hfz14_3 := bkz BK115.out 3) | ((with_reducible refine gate_callee (f := 49) rfl ?_); refine goesL_ (some 22) rfl rfl Tryz.func49 (by kernel_rfl) rfl #[.agg #[.int .i64 a0_0, .int .i64 a0_1, .int .i64 a0_2, .slice A0_3 l0_3.length c0_3], .int .i64 a1, .bool a2] rfl (by (try simp only [List.map_toArray, List.map_cons, List.map_nil]); first | done | rfl | (simp only [List.length_drop, List.length_take]; rfl)) ?_; (with_reducible refine (item_turned.calls a0_0 a0_1 a0_2 _ _ l0_3 a1 a2 t119 t120 t121 t122 _ ?side1 ?side2 A8.out).mono ?_); (case side1 => repeat (first | exact (Kd.C_below HR0_3.out HB.out) | (with_reducible refine Kd.C_alloc ?_ _) | (with_reducible refine Kd.C_drewN ?_ _) | (with_reducible refine Kd.C_drew ?_))); (case side2 => exact HC0_3.out); rintro e w15 ⟨v123, rfl, ho0, hb⟩; refine ⟨_, rfl, ?_⟩; have n0_ := As0.mk (Kd.S_lower ho0 (bwz (by repeat (first | (with_reducible first | exact HB.out | apply bwa | apply pwN | apply bwd | refine bws ?_ GE115.out | refine bws ?_ GE116.out) | exact HB.out)))); have n1_ := As0.mk (bkb (g := gb115) (o := .cells #[.int .i64 a0_0, .int .i64 a0_1, .int .i64 a0_2, .slice A0_3 l0_3.length c0_3] 24 (0, 0)) (by (with_reducible repeat (first | refine bkN ?_ _ | refine bkd ?_ | refine bka ?_ _)); exact BK115.out) hb); have n2_ := As0.mk (bkb (g := gb116) (o := .cells #[.int .i64 0, .int .i64 0, .int .i64 0, .slice none 0 0] 24 (0, 0)) (by (with_reducible repeat (first | refine bkN ?_ _ | refine bkd ?_ | refine bka ?_ _)); exact BK116.out) hb); have n3_ := As0.mk (bwp (by repeat (first | (with_reducible first | exact HB.out | apply bwa | apply pwN | apply bwd | refine bws ?_ GE115.out | refine bws ?_ GE116.out) | exact HB.out)) hb); clear BK115; clear BK116; clear HB; have HO124 := n0_; have BK115 := n1_; have BK116 := n2_; have HB := n3_; clear n0_ n1_ n2_ n3_; (try clear hb); (try clear hb2); (try clear hk); (try clear hi); (try clear ho0); have hcz16_0 : w15.cell? ⟨gb116, 0, none⟩ = some (.int .i64 0) := (bkc BK116.out 0).trans rfl; have hcz16_1 : w15.cell? ⟨gb116, 1, none⟩ = some (.int .i64 0) := (bkc BK116.out 1).trans rfl; have hcz16_2 : w15.cell? ⟨gb116, 2, none⟩ = some (.int .i64 0) := (bkc BK116.out 2).trans rfl; have hcz16_3 : w15.cell? ⟨gb116, 3, none⟩ = some (.slice none 0 0) := (bkc BK116.out 3).trans rfl; have hfz16_0 := bkz BK116.out 0; have hfz16_1 := bkz BK116.out 1; have hfz16_2 := bkz BK116.out 2; have hfz16_3 := bkz BK116.out 3; obtain ⟨Ao17, co17, eo17⟩ := Kd.S_slice HO124.out; subst eo17))
   refine bodyPost_ret (results_ct rfl _ _ gb116 24 #[.int .i64 t119, .int .i64 t120, .int .i64 t121, .slice Ao17 t122.length co17] (0, 0) _ rfl (by (with_reducible repeat (first | refine bkN ?_ _ | refine bkd ?_ | refine bka ?_ _)); refine blk_put (cs := #[.int .i64 t119, .int .i64 t120, .int .i64 t121, .slice none 0 0]) ?_ 3 _ rfl; (with_reducible repeat (first | refine bkN ?_ _ | refine bkd ?_ | refine bka ?_ _)); refine blk_put (cs := #[.int .i64 t119, .int .i64 t120, .int .i64 0, .slice none 0 0]) ?_ 2 _ rfl; (with_reducible repeat (first | refine bkN ?_ _ | refine bkd ?_ | refine bka ?_ _)); refine blk_put (cs := #[.int .i64 t119, .int .i64 0, .int .i64 0, .slice none 0 0]) ?_ 1 _ rfl; (with_reducible repeat (first | refine bkN ?_ _ | refine bkd ?_ | refine bka ?_ _)); refine blk_put (cs := #[.int .i64 0, .int .i64 0, .int .i64 0, .slice none 0 0]) ?_ 0 _ rfl; (with_reducible repeat (first | refine bkN ?_ _ | refine bkd ?_ | refine bka ?_ _)); exact BK116.out) Tryz.underlying24 rfl (by kernel_rfl)) rfl ?_
   exact ⟨_, by first | rfl | (simp [errW_none, errW_some] <;> rfl) | (simp [*, errW_none, errW_some] <;> rfl), by (with_reducible repeat (first | apply Kd.S_alloc | apply Kd.S_drewN | apply Kd.S_drew)); exact Kd.S_mono (Kd.S_far (p := ⟨gb116, 3, none⟩) (Kd.S_far (p := ⟨gb116, 2, none⟩) (Kd.S_far (p := ⟨gb116, 1, none⟩) (Kd.S_far (p := ⟨gb116, 0, none⟩) (Kd.S_types HO124.out BK116.out (by decide)) (fun _ hk => hk.2) (.int .i64 t119)) (fun _ hk => hk.2) (.int .i64 t120)) (fun _ hk => hk.2) (.int .i64 t121)) (fun _ hk => hk.2) (.slice Ao17 t122.length co17)) (fun _ hk => trivial), by repeat (first | (with_reducible first | exact HB.out | apply bwa | apply pwN | apply bwd | refine bws ?_ GE115.out | refine bws ?_ GE116.out) | exact HB.out)⟩
  ·replace c7 := Bool.eq_false_iff.mpr c7
   subst c7
   have H1 : (some (0, 0, 0, ([] : List (List Int)), 1)) = some (r1, r2, r3, r4, r5) := by rw [if_neg (show ¬ (false = true) by decide)] at H; exact H
   clear H
   have H := H1
   clear H1
   simp only [Option.some.injEq, Prod.mk.injEq] at H
   obtain ⟨rfl, rfl, rfl, rfl, rfl⟩ := H
   go_enter Tryz.func13, Tryz.ntmps13
   go_wp2_with (first | ((with_reducible refine gdt (N := 3) rfl ?_); refine bxe ?hg (N := 3) ?hd (cs := #[.int .i64 a0_0, .int .i64 a0_1, .int .i64 a0_2, .slice A0_3 l0_3.length c0_3]) (t := 24) ?hr ?_; (case hd => rfl); (case hg => rfl); (case hr => first | (go_simp; done) | (go_simp; rfl)); intro gb115 hg w18 hbox hb; have n0_ := As0.mk (bwp (by repeat (first | (with_reducible first | exact HB.out | apply bwa | apply pwN | apply bwd) | exact HB.out)) hb); have n1_ := As0.mk (hbox); have n2_ := As0.mk ((by rw [hg]; exact (bwz (by repeat (first | (with_reducible first | exact HB.out | apply bwa | apply pwN | apply bwd) | exact HB.out))) : w.heap.size ≤ gb115)); have n3_ := As0.mk ((by rw [hg]; exact (bwz (by repeat (first | (with_reducible first | exact HB.out | apply bwa | apply pwN | apply bwd) | exact HB.out))) : w.heap.size ≤ gb115)); clear HB; have HB := n0_; have BK115 := n1_; have GW115 := n2_; have GE115 := n3_; clear n0_ n1_ n2_ n3_; clear hb hbox hg) | ((with_reducible refine gdt (N := 6) rfl ?_); refine bxe ?hg (N := 6) ?hd (cs := #[.int .i64 0, .int .i64 0, .int .i64 0, .slice none 0 0]) (t := 24) ?hr ?_; (case hd => rfl); (case hg => rfl); (case hr => first | (go_simp; done) | (go_simp; rfl)); intro gb116 hg w19 hbox hb; have n0_ := As0.mk (bkb (g := gb115) (o := .cells #[.int .i64 a0_0, .int .i64 a0_1, .int .i64 a0_2, .slice A0_3 l0_3.length c0_3] 24 (0, 0)) (by (with_reducible repeat (first | refine bkN ?_ _ | refine bkd ?_ | refine bka ?_ _)); exact BK115.out) hb); have n1_ := As0.mk (bwp (by repeat (first | (with_reducible first | exact HB.out | apply bwa | apply pwN | apply bwd | refine bws ?_ GE115.out) | exact HB.out)) hb); have n2_ := As0.mk (hbox); have n3_ := As0.mk ((by rw [hg]; exact (bwz (by repeat (first | (with_reducible first | exact HB.out | apply bwa | apply pwN | apply bwd | refine bws ?_ GE115.out) | exact HB.out))) : w.heap.size ≤ gb116)); have n4_ := As0.mk ((by rw [hg]; exact (bwz (by repeat (first | (with_reducible first | exact HB.out | apply bwa | apply pwN | apply bwd | refine bws ?_ GE115.out) | exact HB.out))) : w.heap.size ≤ gb116)); have n5_ := As0.mk ((by rw [hg]; exact Nat.ne_of_lt (blk_lt (g := gb115) (o := .cells #[.int .i64 a0_0, .int .i64 a0_1, .int .i64 a0_2, .slice A0_3 l0_3.length c0_3] 24 (0, 0)) (by (with_reducible repeat (first | refine bkN ?_ _ | refine bkd ?_ | refine bka ?_ _)); exact BK115.out)) : gb115 ≠ gb116)); have n6_ := As0.mk ((by rw [hg]; exact Nat.ne_of_gt (blk_lt (g := gb115) (o := .cells #[.int .i64 a0_0, .int .i64 a0_1, .int .i64 a0_2, .slice A0_3 l0_3.length c0_3] 24 (0, 0)) (by (with_reducible repeat (first | refine bkN ?_ _ | refine bkd ?_ | refine bka ?_ _)); exact BK115.out)) : gb116 ≠ gb115)); clear BK115; clear HB; have BK115 := n0_; have HB := n1_; have BK116 := n2_; have GW116 := n3_; have GE116 := n4_; have NB115_116 := n5_; have NB116_115 := n6_; clear n0_ n1_ n2_ n3_ n4_ n5_ n6_; clear hb hbox hg; have hnb20 := NB115_116.out; have hnc20 := NB116_115.out; have hcz21_0 : w19.cell? ⟨gb115, 0, none⟩ = some (.int .i64 a0_0) := (bkc BK115.out 0).trans rfl; have hcz21_1 : w19.cell? ⟨gb115, 1, none⟩ = some (.int .i64 a0_1) := (bkc BK115.out 1).trans rfl; have hcz21_2 : w19.cell? ⟨gb115, 2, none⟩ = some (.int .i64 a0_2) := (bkc BK115.out 2).trans rfl; have hcz21_3 : w19.cell? ⟨gb115, 3, none⟩ = some (.slice A0_3 l0_3.length c0_3) := (bkc BK115.out 3).trans rfl; have hfz21_0 := bkz BK115.out 0; have hfz21_1 := bkz BK115.out 1; have hfz21_2 := bkz BK115.out 2; have hfz21_3 := bkz BK115.out 3) | ((with_reducible refine gate_callee (f := 47) rfl ?_); refine goesL_ (some 10) rfl rfl Tryz.func47 (by kernel_rfl) rfl #[.agg #[.int .i64 a0_0, .int .i64 a0_1, .int .i64 a0_2, .slice A0_3 l0_3.length c0_3]] rfl (by (try simp only [List.map_toArray, List.map_cons, List.map_nil]); first | done | rfl | (simp only [List.length_drop, List.length_take]; rfl)) ?_; (with_reducible refine (picture_Check.calls a0_0 a0_1 a0_2 _ _ l0_3 t117 _ ?side1 ?side2 A4.out).mono ?_); (case side1 => repeat (first | exact (Kd.C_below HR0_3.out HB.out) | (with_reducible refine Kd.C_alloc ?_ _) | (with_reducible refine Kd.C_drewN ?_ _) | (with_reducible refine Kd.C_drew ?_))); (case side2 => exact HC0_3.out); rintro e w22 ⟨rfl, hb⟩; refine ⟨_, rfl, ?_⟩; have n0_ := As0.mk (bkb (g := gb115) (o := .cells #[.int .i64 a0_0, .int .i64 a0_1, .int .i64 a0_2, .slice A0_3 l0_3.length c0_3] 24 (0, 0)) (by (with_reducible repeat (first | refine bkN ?_ _ | refine bkd ?_ | refine bka ?_ _)); exact BK115.out) hb); have n1_ := As0.mk (bkb (g := gb116) (o := .cells #[.int .i64 0, .int .i64 0, .int .i64 0, .slice none 0 0] 24 (0, 0)) (by (with_reducible repeat (first | refine bkN ?_ _ | refine bkd ?_ | refine bka ?_ _)); exact BK116.out) hb); have n2_ := As0.mk (bwp (by repeat (first | (with_reducible first | exact HB.out | apply bwa | apply pwN | apply bwd | refine bws ?_ GE115.out | refine bws ?_ GE116.out) | exact HB.out)) hb); clear BK115; clear BK116; clear HB; have BK115 := n0_; have BK116 := n1_; have HB := n2_; clear n0_ n1_ n2_; (try clear hb); (try clear hb2); (try clear hk); (try clear hi)) | ((with_reducible refine gate_callee (f := 48) rfl ?_); refine goesL_ (some 16) rfl rfl Tryz.func48 (by kernel_rfl) rfl #[.int .i64 a1, .int .i64 0, .int .i64 3] rfl (by (try simp only [List.map_toArray, List.map_cons, List.map_nil]); first | done | rfl | (simp only [List.length_drop, List.length_take]; rfl)) ?_; (with_reducible refine (item_within.calls a1 0 3 false _ A6.out).mono ?_); rintro e w' ⟨rfl, ⟨nd, rfl⟩⟩; refine ⟨_, rfl, ?_⟩; (try (rw [drewN_self w22]; generalize hq_ : World.drewN w22 _ = w22; have n0_ : As0 (w22.heap[gb115]? = some (.cells #[.int .i64 a0_0, .int .i64 a0_1, .int .i64 a0_2, .slice A0_3 l0_3.length c0_3] 24 (0, 0))) := ⟨by rw [← hq_]; exact (by (with_reducible repeat (first | refine bkN ?_ _ | refine bkd ?_ | refine bka ?_ _)); exact BK115.out)⟩; have n1_ : As0 (w22.heap[gb116]? = some (.cells #[.int .i64 0, .int .i64 0, .int .i64 0, .slice none 0 0] 24 (0, 0))) := ⟨by rw [← hq_]; exact (by (with_reducible repeat (first | refine bkN ?_ _ | refine bkd ?_ | refine bka ?_ _)); exact BK116.out)⟩; have n2_ : As0 (Below w.heap.size w w22) := ⟨by rw [← hq_]; exact (by repeat (first | (with_reducible first | exact HB.out | apply bwa | apply pwN | apply bwd | refine bws ?_ GE115.out | refine bws ?_ GE116.out) | exact HB.out))⟩; clear BK115 BK116 HB hq_; have BK115 := n0_; have BK116 := n1_; have HB := n2_; clear n0_ n1_ n2_)); have hcz23_0 : w22.cell? ⟨gb116, 0, none⟩ = some (.int .i64 0) := (bkc BK116.out 0).trans rfl; have hcz23_1 : w22.cell? ⟨gb116, 1, none⟩ = some (.int .i64 0) := (bkc BK116.out 1).trans rfl; have hcz23_2 : w22.cell? ⟨gb116, 2, none⟩ = some (.int .i64 0) := (bkc BK116.out 2).trans rfl; have hcz23_3 : w22.cell? ⟨gb116, 3, none⟩ = some (.slice none 0 0) := (bkc BK116.out 3).trans rfl; have hfz23_0 := bkz BK116.out 0; have hfz23_1 := bkz BK116.out 1; have hfz23_2 := bkz BK116.out 2; have hfz23_3 := bkz BK116.out 3))
   refine bodyPost_ret (results_ct rfl _ _ gb116 24 #[.int .i64 0, .int .i64 0, .int .i64 0, .slice none 0 0] (0, 0) _ rfl (by (with_reducible repeat (first | refine bkN ?_ _ | refine bkd ?_ | refine bka ?_ _)); refine blk_put (cs := #[.int .i64 0, .int .i64 0, .int .i64 0, .slice none 0 0]) ?_ 3 _ rfl; (with_reducible repeat (first | refine bkN ?_ _ | refine bkd ?_ | refine bka ?_ _)); refine blk_put (cs := #[.int .i64 0, .int .i64 0, .int .i64 0, .slice none 0 0]) ?_ 2 _ rfl; (with_reducible repeat (first | refine bkN ?_ _ | refine bkd ?_ | refine bka ?_ _)); refine blk_put (cs := #[.int .i64 0, .int .i64 0, .int .i64 0, .slice none 0 0]) ?_ 1 _ rfl; (with_reducible repeat (first | refine bkN ?_ _ | refine bkd ?_ | refine bka ?_ _)); refine blk_put (cs := #[.int .i64 0, .int .i64 0, .int .i64 0, .slice none 0 0]) ?_ 0 _ rfl; (with_reducible repeat (first | refine bkN ?_ _ | refine bkd ?_ | refine bka ?_ _)); exact BK116.out) Tryz.underlying24 rfl (by kernel_rfl)) rfl ?_
   exact ⟨_, by first | rfl | (simp [errW_none, errW_some] <;> rfl) | (simp [*, errW_none, errW_some] <;> rfl), by first | exact Kd.S_nil _ _ _ _ _ | exact Kd.N_nil _ _ _ _ _ | exact Kd.V_nil _ _ _ _ _ | exact Kd.Q_nil _ _ _ _ _ | exact Kd.R_nil _ _ _ _ _, by repeat (first | (with_reducible first | exact HB.out | apply bwa | apply pwN | apply bwd | refine bws ?_ GE115.out | refine bws ?_ GE116.out) | exact HB.out)⟩
 ·rw [if_neg c5] at H
  have c5b0 : (t117 == 0) = false := beq_eq_false_iff_ne.mpr c5
  have c5b1 : (t117 != 0) = true := bne_iff_ne.mpr c5
  simp only [Option.some.injEq, Prod.mk.injEq] at H
  obtain ⟨rfl, rfl, rfl, rfl, rfl⟩ := H
  go_enter Tryz.func13, Tryz.ntmps13
  go_wp2_with (first | ((with_reducible refine gdt (N := 3) rfl ?_); refine bxe ?hg (N := 3) ?hd (cs := #[.int .i64 a0_0, .int .i64 a0_1, .int .i64 a0_2, .slice A0_3 l0_3.length c0_3]) (t := 24) ?hr ?_; (case hd => rfl); (case hg => rfl); (case hr => first | (go_simp; done) | (go_simp; rfl)); intro gb115 hg w24 hbox hb; have n0_ := As0.mk (bwp (by repeat (first | (with_reducible first | exact HB.out | apply bwa | apply pwN | apply bwd) | exact HB.out)) hb); have n1_ := As0.mk (hbox); have n2_ := As0.mk ((by rw [hg]; exact (bwz (by repeat (first | (with_reducible first | exact HB.out | apply bwa | apply pwN | apply bwd) | exact HB.out))) : w.heap.size ≤ gb115)); have n3_ := As0.mk ((by rw [hg]; exact (bwz (by repeat (first | (with_reducible first | exact HB.out | apply bwa | apply pwN | apply bwd) | exact HB.out))) : w.heap.size ≤ gb115)); clear HB; have HB := n0_; have BK115 := n1_; have GW115 := n2_; have GE115 := n3_; clear n0_ n1_ n2_ n3_; clear hb hbox hg) | ((with_reducible refine gdt (N := 6) rfl ?_); refine bxe ?hg (N := 6) ?hd (cs := #[.int .i64 0, .int .i64 0, .int .i64 0, .slice none 0 0]) (t := 24) ?hr ?_; (case hd => rfl); (case hg => rfl); (case hr => first | (go_simp; done) | (go_simp; rfl)); intro gb116 hg w25 hbox hb; have n0_ := As0.mk (bkb (g := gb115) (o := .cells #[.int .i64 a0_0, .int .i64 a0_1, .int .i64 a0_2, .slice A0_3 l0_3.length c0_3] 24 (0, 0)) (by (with_reducible repeat (first | refine bkN ?_ _ | refine bkd ?_ | refine bka ?_ _)); exact BK115.out) hb); have n1_ := As0.mk (bwp (by repeat (first | (with_reducible first | exact HB.out | apply bwa | apply pwN | apply bwd | refine bws ?_ GE115.out) | exact HB.out)) hb); have n2_ := As0.mk (hbox); have n3_ := As0.mk ((by rw [hg]; exact (bwz (by repeat (first | (with_reducible first | exact HB.out | apply bwa | apply pwN | apply bwd | refine bws ?_ GE115.out) | exact HB.out))) : w.heap.size ≤ gb116)); have n4_ := As0.mk ((by rw [hg]; exact (bwz (by repeat (first | (with_reducible first | exact HB.out | apply bwa | apply pwN | apply bwd | refine bws ?_ GE115.out) | exact HB.out))) : w.heap.size ≤ gb116)); have n5_ := As0.mk ((by rw [hg]; exact Nat.ne_of_lt (blk_lt (g := gb115) (o := .cells #[.int .i64 a0_0, .int .i64 a0_1, .int .i64 a0_2, .slice A0_3 l0_3.length c0_3] 24 (0, 0)) (by (with_reducible repeat (first | refine bkN ?_ _ | refine bkd ?_ | refine bka ?_ _)); exact BK115.out)) : gb115 ≠ gb116)); have n6_ := As0.mk ((by rw [hg]; exact Nat.ne_of_gt (blk_lt (g := gb115) (o := .cells #[.int .i64 a0_0, .int .i64 a0_1, .int .i64 a0_2, .slice A0_3 l0_3.length c0_3] 24 (0, 0)) (by (with_reducible repeat (first | refine bkN ?_ _ | refine bkd ?_ | refine bka ?_ _)); exact BK115.out)) : gb116 ≠ gb115)); clear BK115; clear HB; have BK115 := n0_; have HB := n1_; have BK116 := n2_; have GW116 := n3_; have GE116 := n4_; have NB115_116 := n5_; have NB116_115 := n6_; clear n0_ n1_ n2_ n3_ n4_ n5_ n6_; clear hb hbox hg; have hnb26 := NB115_116.out; have hnc26 := NB116_115.out; have hcz27_0 : w25.cell? ⟨gb115, 0, none⟩ = some (.int .i64 a0_0) := (bkc BK115.out 0).trans rfl; have hcz27_1 : w25.cell? ⟨gb115, 1, none⟩ = some (.int .i64 a0_1) := (bkc BK115.out 1).trans rfl; have hcz27_2 : w25.cell? ⟨gb115, 2, none⟩ = some (.int .i64 a0_2) := (bkc BK115.out 2).trans rfl; have hcz27_3 : w25.cell? ⟨gb115, 3, none⟩ = some (.slice A0_3 l0_3.length c0_3) := (bkc BK115.out 3).trans rfl; have hfz27_0 := bkz BK115.out 0; have hfz27_1 := bkz BK115.out 1; have hfz27_2 := bkz BK115.out 2; have hfz27_3 := bkz BK115.out 3) | ((with_reducible refine gate_callee (f := 47) rfl ?_); refine goesL_ (some 10) rfl rfl Tryz.func47 (by kernel_rfl) rfl #[.agg #[.int .i64 a0_0, .int .i64 a0_1, .int .i64 a0_2, .slice A0_3 l0_3.length c0_3]] rfl (by (try simp only [List.map_toArray, List.map_cons, List.map_nil]); first | done | rfl | (simp only [List.length_drop, List.length_take]; rfl)) ?_; (with_reducible refine (picture_Check.calls a0_0 a0_1 a0_2 _ _ l0_3 t117 _ ?side1 ?side2 A4.out).mono ?_); (case side1 => repeat (first | exact (Kd.C_below HR0_3.out HB.out) | (with_reducible refine Kd.C_alloc ?_ _) | (with_reducible refine Kd.C_drewN ?_ _) | (with_reducible refine Kd.C_drew ?_))); (case side2 => exact HC0_3.out); rintro e w28 ⟨rfl, hb⟩; refine ⟨_, rfl, ?_⟩; have n0_ := As0.mk (bkb (g := gb115) (o := .cells #[.int .i64 a0_0, .int .i64 a0_1, .int .i64 a0_2, .slice A0_3 l0_3.length c0_3] 24 (0, 0)) (by (with_reducible repeat (first | refine bkN ?_ _ | refine bkd ?_ | refine bka ?_ _)); exact BK115.out) hb); have n1_ := As0.mk (bkb (g := gb116) (o := .cells #[.int .i64 0, .int .i64 0, .int .i64 0, .slice none 0 0] 24 (0, 0)) (by (with_reducible repeat (first | refine bkN ?_ _ | refine bkd ?_ | refine bka ?_ _)); exact BK116.out) hb); have n2_ := As0.mk (bwp (by repeat (first | (with_reducible first | exact HB.out | apply bwa | apply pwN | apply bwd | refine bws ?_ GE115.out | refine bws ?_ GE116.out) | exact HB.out)) hb); clear BK115; clear BK116; clear HB; have BK115 := n0_; have BK116 := n1_; have HB := n2_; clear n0_ n1_ n2_; (try clear hb); (try clear hb2); (try clear hk); (try clear hi); have hcz29_0 : w28.cell? ⟨gb116, 0, none⟩ = some (.int .i64 0) := (bkc BK116.out 0).trans rfl; have hcz29_1 : w28.cell? ⟨gb116, 1, none⟩ = some (.int .i64 0) := (bkc BK116.out 1).trans rfl; have hcz29_2 : w28.cell? ⟨gb116, 2, none⟩ = some (.int .i64 0) := (bkc BK116.out 2).trans rfl; have hcz29_3 : w28.cell? ⟨gb116, 3, none⟩ = some (.slice none 0 0) := (bkc BK116.out 3).trans rfl; have hfz29_0 := bkz BK116.out 0; have hfz29_1 := bkz BK116.out 1; have hfz29_2 := bkz BK116.out 2; have hfz29_3 := bkz BK116.out 3))
  refine bodyPost_ret (results_ct rfl _ _ gb116 24 #[.int .i64 0, .int .i64 0, .int .i64 0, .slice none 0 0] (0, 0) _ rfl (by (with_reducible repeat (first | refine bkN ?_ _ | refine bkd ?_ | refine bka ?_ _)); refine blk_put (cs := #[.int .i64 0, .int .i64 0, .int .i64 0, .slice none 0 0]) ?_ 3 _ rfl; (with_reducible repeat (first | refine bkN ?_ _ | refine bkd ?_ | refine bka ?_ _)); refine blk_put (cs := #[.int .i64 0, .int .i64 0, .int .i64 0, .slice none 0 0]) ?_ 2 _ rfl; (with_reducible repeat (first | refine bkN ?_ _ | refine bkd ?_ | refine bka ?_ _)); refine blk_put (cs := #[.int .i64 0, .int .i64 0, .int .i64 0, .slice none 0 0]) ?_ 1 _ rfl; (with_reducible repeat (first | refine bkN ?_ _ | refine bkd ?_ | refine bka ?_ _)); refine blk_put (cs := #[.int .i64 0, .int .i64 0, .int .i64 0, .slice none 0 0]) ?_ 0 _ rfl; (with_reducible repeat (first | refine bkN ?_ _ | refine bkd ?_ | refine bka ?_ _)); exact BK116.out) Tryz.underlying24 rfl (by kernel_rfl)) rfl ?_
  exact ⟨_, by first | rfl | (simp [errW_none, errW_some] <;> rfl) | (simp [*, errW_none, errW_some] <;> rfl), by first | exact Kd.S_nil _ _ _ _ _ | exact Kd.N_nil _ _ _ _ _ | exact Kd.V_nil _ _ _ _ _ | exact Kd.Q_nil _ _ _ _ _ | exact Kd.R_nil _ _ _ _ _, by repeat (first | (with_reducible first | exact HB.out | apply bwa | apply pwN | apply bwd | refine bws ?_ GE115.out | refine bws ?_ GE116.out) | exact HB.out)⟩
theorem eq_ints (l : List Int) (hl : l.length ≤ 10000000) : ∀ (n j : Nat), j + n = l.length → Ev fun k => r00_EqInts.l0 k l l j = some true := by
 intro n
 induction n with
 | zero =>
  intro j hj
  refine Ev.const (fun k => ?_)
  rw [r00_EqInts.l0, if_neg (by omega)]
 | succ n ih =>
  intro j hj
  refine Ev.step (fun k => ?_) (ih (j + 1) (by omega))
  rw [r00_EqInts.l0, if_pos (by omega), if_pos (by omega), if_pos (by omega), if_pos rfl, w64_succ j (by omega)]
theorem eq_rows (ps : List (List Int)) (hn : ps.length ≤ 1000) (hr : ∀ r ∈ ps, r.length ≤ 10000000) : ∀ (n j : Nat), j + n = ps.length → Ev fun k => r00_EqRows.l0 k ps ps j = some true := by
 intro n
 induction n with
 | zero =>
  intro j hj
  refine Ev.const (fun k => ?_)
  rw [r00_EqRows.l0, if_neg (by omega)]
 | succ n ih =>
  intro j hj
  have hjl : j < ps.length := by omega
  have hx : ps[j]? = some ps[j] := List.getElem?_eq_getElem hjl
  have hrl := hr _ (List.getElem_mem hjl)
  refine Ev.step (g := fun k => (r00_EqInts.f k ps[j] ps[j]).bind fun t => if t = true then r00_EqRows.l0 k ps ps ((j + 1 : Nat) : Int) else some false) (fun k => ?_) (Ev.bind (x := true) ?_ ?_)
  ·rw [r00_EqRows.l0, if_pos (by omega), if_pos (by omega), if_pos (by omega), w64_succ j (by omega), rdL1_at ps j _ hx]
  ·obtain ⟨K, hK⟩ := eq_ints ps[j] hrl ps[j].length 0 (by omega)
   refine ⟨K, fun k hk => ?_⟩
   show r00_EqInts.f k ps[j] ps[j] = some true
   unfold r00_EqInts.f
   rw [if_pos rfl]
   exact hK k hk
  ·exact (ih (j + 1) (by omega)).mono (fun k hk => by rw [if_pos rfl]; exact hk)
theorem eq_image (a b c : Int) (ps : List (List Int)) (hn : ps.length ≤ 1000) (hr : ∀ r ∈ ps, r.length ≤ 10000000) : Ev fun k => r00_EqImage.f k a b c ps a b c ps = some true := by
 obtain ⟨K, hK⟩ := eq_rows ps hn hr ps.length 0 (by omega)
 refine ⟨K, fun k hk => ?_⟩
 show r00_EqImage.f k a b c ps a b c ps = some true
 have h1 : r00_EqRows.f k ps ps = some true := by
  unfold r00_EqRows.f
  rw [if_pos rfl]
  exact hK k hk
 unfold r00_EqImage.f
 rw [if_pos rfl, if_pos rfl, if_pos rfl, h1]
 rfl
theorem check_zero (a b c : Int) (l : List (List Int)) (h : picture_Check.f a b c l = some 0) : 1 ≤ a ∧ a ≤ 64 ∧ 1 ≤ b ∧ b ≤ 64 ∧ 1 ≤ c ∧ c ≤ 12 ∧ 0 < l.length ∧ l.length ≤ 4 ∧ (∀ r ∈ l, r.length = a.toNat * b.toNat) ∧ okPlanes c l = true := by
 unfold picture_Check.f at h
 have h := Option.some.inj h
 split at h
 ·cases h
 ·rename_i h1
  split at h
  ·cases h
  ·rename_i h2
   split at h
   ·rename_i h3
    have h1 : (btw a 1 64 && btw b 1 64 && btw c 1 12 && btw (l.length : Int) 1 4) = true := by cases hb : (btw a 1 64 && btw b 1 64 && btw c 1 12 && btw (l.length : Int) 1 4) with | true => rfl | false => exact absurd hb h1
    simp only [btw, Bool.and_eq_true, decide_eq_true_eq] at h1
    obtain ⟨⟨⟨⟨a1, a2⟩, b1, b2⟩, c1, c2⟩, n1, n2⟩ := h1
    refine ⟨a1, a2, b1, b2, c1, c2, by omega, by omega, fun r hr => ?_, h3⟩
    have hall : ¬ ((r.length : Int) != wrap64 (a * b)) = true := fun he => h2 (List.any_eq_true.2 ⟨r, hr, he⟩)
    have he : (r.length : Int) = wrap64 (a * b) := by simpa using hall
    have hm : a * b = ((a.toNat * b.toNat : Nat) : Int) := by
     rw [Int.natCast_mul]
     congr 1 <;> omega
    have hmb : a.toNat * b.toNat ≤ 64 * 64 := Nat.mul_le_mul (by omega) (by omega)
    rw [hm, w64_nat _ (by omega)] at he
    exact Int.ofNat_inj.1 he
   ·cases h
theorem check_make (w h : Nat) (c : Int) (l : List (List Int)) (hw : 1 ≤ w ∧ w ≤ 64) (hh : 1 ≤ h ∧ h ≤ 64) (hc : 1 ≤ c ∧ c ≤ 12) (hn : 0 < l.length ∧ l.length ≤ 4) (hr : ∀ r ∈ l, r.length = w * h) (hv : ∀ r ∈ l, ∀ v ∈ r, btw v 0 (2 ^ c.toNat - 1) = true) : picture_Check.f (w : Int) (h : Int) c l = some 0 := by
 have hmb : w * h ≤ 64 * 64 := Nat.mul_le_mul hw.2 hh.2
 have e1 : btw (w : Int) 1 64 = true := by simp [btw]; omega
 have e2 : btw (h : Int) 1 64 = true := by simp [btw]; omega
 have e3 : btw c 1 12 = true := by simp [btw]; omega
 have e4 : btw (l.length : Int) 1 4 = true := by simp [btw]; omega
 have e5 : (l.any fun p => (p.length : Int) != wrap64 ((w : Int) * (h : Int))) = false := by
  rw [List.any_eq_false]
  intro r hrr
  rw [← Int.natCast_mul, w64_nat _ (by omega), hr r hrr]
  simp
 have e6 : okPlanes c l = true := by
  unfold okPlanes
  rw [List.all_eq_true]
  intro r hrr
  have : (r.any fun v => !(btw v 0 (2 ^ c.toNat - 1))) = false := by
   rw [List.any_eq_false]
   intro v hvv
   rw [hv r hrr v hvv]
   decide
  rw [this]
  rfl
 unfold picture_Check.f
 rw [e1, e2, e3, e4, e5, e6]
 rfl
theorem okPlanes_all (c : Int) (l : List (List Int)) (h : okPlanes c l = true) : ∀ r ∈ l, ∀ v ∈ r, btw v 0 (2 ^ c.toNat - 1) = true := by
 intro r hr v hv
 have h1 := List.all_eq_true.1 h r hr
 have h2 : (r.any fun v => !(btw v 0 (2 ^ c.toNat - 1))) = false := by simpa using h1
 have h3 := List.any_eq_false.1 h2 v hv
 simpa using h3
def inB (c : Int) (r : List Int) : Prop := ∀ v ∈ r, btw v 0 (2 ^ c.toNat - 1) = true
theorem inB.getD {c : Int} {r : List Int} (hr : inB c r) (i : Nat) : btw (r.getD i 0) 0 (2 ^ c.toNat - 1) = true := by
 rw [List.getD_eq_getElem?_getD]
 cases hx : r[i]? with
 | some x => exact hr x (List.mem_of_getElem? hx)
 | none =>
  have : (0 : Int) < 2 ^ c.toNat := Int.pow_pos (by decide)
  simp [btw]
  omega
theorem inB.map {c : Int} {r : List Int} (hr : inB c r) (n : Nat) (f : Nat → Nat) : inB c ((List.range n).map fun q => r.getD (f q) 0) := by
 intro v hv
 obtain ⟨q, _, rfl⟩ := List.mem_map.1 hv
 exact hr.getD _
theorem inB.rot {c : Int} {r : List Int} (hr : inB c r) (w h : Nat) : inB c (rot1 w h r) := hr.map _ _
def okAll (c : Int) (s : Nat × Nat × List (List Int)) : Prop := (1 ≤ s.1 ∧ s.1 ≤ 64) ∧ (1 ≤ s.2.1 ∧ s.2.1 ≤ 64) ∧ (1 ≤ c ∧ c ≤ 12) ∧ (0 < s.2.2.length ∧ s.2.2.length ≤ 4) ∧ (∀ r ∈ s.2.2, r.length = s.1 * s.2.1) ∧ ∀ r ∈ s.2.2, inB c r
theorem okAll.turn {c : Int} {s : Nat × Nat × List (List Int)} (h : okAll c s) : okAll c (s.2.1, s.1, s.2.2.map (rot1 s.1 s.2.1)) := by
 obtain ⟨h1, h2, h3, h4, h5, h6⟩ := h
 refine ⟨h2, h1, h3, by simpa using h4, fun r hr => ?_, fun r hr => ?_⟩
 ·obtain ⟨r', _, rfl⟩ := List.mem_map.1 hr
  rw [rot1_length, Nat.mul_comm]
 ·obtain ⟨r', hr', rfl⟩ := List.mem_map.1 hr
  exact (h6 r' hr').rot _ _
theorem okAll.turnN {c : Int} : ∀ (k : Nat) {s : Nat × Nat × List (List Int)}, okAll c s → okAll c (turnN k s)
 | 0, _, h => h
 | k + 1, _, h => okAll.turnN k h.turn
def l15_plain.l0 : Nat → Int → Int → Int → Int → List (List Int) → Option (Bool)
 | 0, _, _, _, _, _ => none
 | k + 1, x3, x102000, x102001, x102002, x102003 => if x3 < (x102003.length : Int) then (if 0 ≤ x3 then (if ((rd_L1 x102003 x3).length : Int) > 5000 then (some false) else (l15_plain.l0 k (wrap64 (x3 + 1)) x102000 x102001 x102002 x102003)) else (none)) else (some (decide ((x102003.length : Int) ≤ 8)))
def l15_plain.f (k : Nat) (a0_0 : Int) (a0_1 : Int) (a0_2 : Int) (l0_3 : List (List Int)) : Option (Bool) := l15_plain.l0 k 0 a0_0 a0_1 a0_2 l0_3
set_option maxHeartbeats 8000000 in
set_option maxRecDepth 100000 in
theorem l15_plain.calls (k : Nat) (a0_0 : Int) (a0_1 : Int) (a0_2 : Int) (A0_3 : Option Addr) (c0_3 : Nat) (l0_3 : List (List Int)) (r : Bool) (w : World) (hr0_3 : Kd.C (Kd.slice 3 (Kd.int .i64)) w A0_3 l0_3.length l0_3) (hc0_3 : l0_3.length ≤ c0_3) (h : l15_plain.f k a0_0 a0_1 a0_2 l0_3 = some r) :
  Calls Tryz.prog 12 #[.agg #[.int .i64 a0_0, .int .i64 a0_1, .int .i64 a0_2, .slice A0_3 l0_3.length c0_3]] w fun e w' => e = .returned (.bool r) ∧ Below w.heap.size w w' := by
 have hu24 := Tryz.underlying24
 have HR0_3 := As0.mk hr0_3
 have HC0_3 := As0.mk hc0_3
 clear hr0_3 hc0_3
 have HB := As0.mk (Below.refl w.heap.size w)
 have H : (l15_plain.l0 k 0 a0_0 a0_1 a0_2 l0_3) = some r := h
 clear h
 have H' := As0.mk H
 clear H
 go_enter Tryz.func12, Tryz.ntmps12
 go_wp2_with (first | ((with_reducible refine gdt (N := 1) rfl ?_); refine bxe ?hg (N := 1) ?hd (cs := #[.int .i64 a0_0, .int .i64 a0_1, .int .i64 a0_2, .slice A0_3 l0_3.length c0_3]) (t := 24) ?hr ?_; (case hd => rfl); (case hg => rfl); (case hr => first | (go_simp; done) | (go_simp; rfl)); intro gb101 hg w2 hbox hb; have n0_ := As0.mk (bwp (by repeat (first | (with_reducible first | exact HB.out | apply bwa | apply pwN | apply bwd) | exact HB.out)) hb); have n1_ := As0.mk (hbox); have n2_ := As0.mk ((by rw [hg]; exact (bwz (by repeat (first | (with_reducible first | exact HB.out | apply bwa | apply pwN | apply bwd) | exact HB.out))) : w.heap.size ≤ gb101)); have n3_ := As0.mk ((by rw [hg]; exact (bwz (by repeat (first | (with_reducible first | exact HB.out | apply bwa | apply pwN | apply bwd) | exact HB.out))) : w.heap.size ≤ gb101)); clear HB; have HB := n0_; have BK101 := n1_; have GW101 := n2_; have GE101 := n3_; clear n0_ n1_ n2_ n3_; clear hb hbox hg))
 go_loopg [3] k (fun kq v3 w' => ∃ (x3_1 : Int), v3 = .int .i64 x3_1 ∧ As0 (l15_plain.l0 kq x3_1 a0_0 a0_1 a0_2 l0_3 = some r) ∧ As0 (kq ≤ k) ∧ As0 (w'.heap[gb101]? = some (.cells #[.int .i64 a0_0, .int .i64 a0_1, .int .i64 a0_2, (.slice A0_3 l0_3.length c0_3)] 24 (0, 0))) ∧ As0 (Below w.heap.size w w'))
 case atStart => exact ⟨(0), (by first | rfl | (simp; done) | (simp [*]; done)), H', ⟨Nat.le_refl _⟩, ⟨by (with_reducible repeat (first | refine bkN ?_ _ | refine bkd ?_ | refine bka ?_ _)); exact BK101.out⟩, ⟨by repeat (first | (with_reducible first | exact HB.out | apply bwa | apply pwN | apply bwd | refine bws ?_ GE101.out) | exact HB.out)⟩⟩
 case round =>
  clear H'
  try clear c1
  try clear p2
  obtain ⟨x3_1, rfl, HA, HK1, BK101, HB⟩ := hrel
  cases gk with
  | zero => exact absurd HA.out (by simp [l15_plain.l0])
  | succ k1 =>
   have H := HA.out
   clear HA
   simp only [l15_plain.l0] at H
   by_cases c3 : x3_1 < (l0_3.length : Int)
   ·rw [if_pos c3] at H
    have c3b0 : decide (x3_1 < (l0_3.length : Int)) = true := decide_eq_true c3
    clear c3
    by_cases c4 : 0 ≤ x3_1
    ·rw [if_pos c4] at H
     have c4b0 : decide (0 ≤ x3_1) = true := decide_eq_true c4
     clear c4
     by_cases c5 : ((rd_L1 l0_3 x3_1).length : Int) > 5000
     ·rw [if_pos c5] at H
      have c5b0 : decide (5000 < ((rd_L1 l0_3 x3_1).length : Int)) = true := decide_eq_true c5
      have c5b1 : decide (5000 < (rd_L1 l0_3 x3_1).length) = true := decide_eq_true (by omega)
      clear c5
      obtain rfl := Option.some.inj H
      have hcz6_0 : wr.cell? ⟨gb101, 0, none⟩ = some (.int .i64 a0_0) := (bkc BK101.out 0).trans rfl
      have hcz6_1 : wr.cell? ⟨gb101, 1, none⟩ = some (.int .i64 a0_1) := (bkc BK101.out 1).trans rfl
      have hcz6_2 : wr.cell? ⟨gb101, 2, none⟩ = some (.int .i64 a0_2) := (bkc BK101.out 2).trans rfl
      have hcz6_3 : wr.cell? ⟨gb101, 3, none⟩ = some (.slice A0_3 l0_3.length c0_3) := (bkc BK101.out 3).trans rfl
      have hfz6_0 := bkz BK101.out 0
      have hfz6_1 := bkz BK101.out 1
      have hfz6_2 := bkz BK101.out 2
      have hfz6_3 := bkz BK101.out 3
      have p102 : 0 ≤ (x3_1 : Int) := of_decide_eq_true (by first | (with_reducible assumption) | assumption)
      have q102 : x3_1 < (l0_3.length : Int) := of_decide_eq_true (by first | (with_reducible assumption) | assumption)
      obtain ⟨ad102, A102_0, c102_0, e102, hx102_0, hl102_0, hi102_0⟩ := at_L1 HR0_3.out x3_1 p102 q102
      cases e102
      replace hx102_0 := (HB.out.cell (World.block_lt_of_cell? w _ hx102_0)).trans hx102_0
      have HR102_0 := As0.mk hi102_0
      have HC102_0 := As0.mk hl102_0
      clear hi102_0 hl102_0
      replace p102 := eq_true p102
      replace q102 := eq_true q102
      go_wp2
      go_ret
      exact ⟨by first | rfl | (simp [errW_none, errW_some] <;> rfl) | (simp [*, errW_none, errW_some] <;> rfl), by repeat (first | (with_reducible first | exact HB.out | apply bwa | apply pwN | apply bwd | refine bws ?_ GE101.out) | exact HB.out)⟩
     ·rw [if_neg c5] at H
      have c5b0 : decide (5000 < ((rd_L1 l0_3 x3_1).length : Int)) = false := decide_eq_false c5
      have c5b1 : decide (5000 < (rd_L1 l0_3 x3_1).length) = false := decide_eq_false (by omega)
      clear c5
      have H' := As0.mk H
      clear H
      have hcz7_0 : wr.cell? ⟨gb101, 0, none⟩ = some (.int .i64 a0_0) := (bkc BK101.out 0).trans rfl
      have hcz7_1 : wr.cell? ⟨gb101, 1, none⟩ = some (.int .i64 a0_1) := (bkc BK101.out 1).trans rfl
      have hcz7_2 : wr.cell? ⟨gb101, 2, none⟩ = some (.int .i64 a0_2) := (bkc BK101.out 2).trans rfl
      have hcz7_3 : wr.cell? ⟨gb101, 3, none⟩ = some (.slice A0_3 l0_3.length c0_3) := (bkc BK101.out 3).trans rfl
      have hfz7_0 := bkz BK101.out 0
      have hfz7_1 := bkz BK101.out 1
      have hfz7_2 := bkz BK101.out 2
      have hfz7_3 := bkz BK101.out 3
      have p102 : 0 ≤ (x3_1 : Int) := of_decide_eq_true (by first | (with_reducible assumption) | assumption)
      have q102 : x3_1 < (l0_3.length : Int) := of_decide_eq_true (by first | (with_reducible assumption) | assumption)
      obtain ⟨ad102, A102_0, c102_0, e102, hx102_0, hl102_0, hi102_0⟩ := at_L1 HR0_3.out x3_1 p102 q102
      cases e102
      replace hx102_0 := (HB.out.cell (World.block_lt_of_cell? w _ hx102_0)).trans hx102_0
      have HR102_0 := As0.mk hi102_0
      have HC102_0 := As0.mk hl102_0
      clear hi102_0 hl102_0
      replace p102 := eq_true p102
      replace q102 := eq_true q102
      go_wp2
      go_roundg k1
      case measure => have := HK1.out; omega
      case rel => exact ⟨(wrap64 (x3_1 + 1)), (by first | rfl | (simp; done) | (simp [*]; done)), H', ⟨by have := HK1.out; omega⟩, ⟨by (with_reducible repeat (first | refine bkN ?_ _ | refine bkd ?_ | refine bka ?_ _)); exact BK101.out⟩, ⟨by repeat (first | (with_reducible first | exact HB.out | apply bwa | apply pwN | apply bwd | refine bws ?_ GE101.out) | exact HB.out)⟩⟩
    ·rw [if_neg c4] at H
     exact absurd H (by simp)
   ·rw [if_neg c3] at H
    have c3b0 : decide (x3_1 < (l0_3.length : Int)) = false := decide_eq_false c3
    clear c3
    obtain rfl := Option.some.inj H
    have hcz8_0 : wr.cell? ⟨gb101, 0, none⟩ = some (.int .i64 a0_0) := (bkc BK101.out 0).trans rfl
    have hcz8_1 : wr.cell? ⟨gb101, 1, none⟩ = some (.int .i64 a0_1) := (bkc BK101.out 1).trans rfl
    have hcz8_2 : wr.cell? ⟨gb101, 2, none⟩ = some (.int .i64 a0_2) := (bkc BK101.out 2).trans rfl
    have hcz8_3 : wr.cell? ⟨gb101, 3, none⟩ = some (.slice A0_3 l0_3.length c0_3) := (bkc BK101.out 3).trans rfl
    have hfz8_0 := bkz BK101.out 0
    have hfz8_1 := bkz BK101.out 1
    have hfz8_2 := bkz BK101.out 2
    have hfz8_3 := bkz BK101.out 3
    go_wp2
    go_ret
    exact ⟨by first | rfl | (simp [errW_none, errW_some] <;> rfl) | (simp [*, errW_none, errW_some] <;> rfl), by repeat (first | (with_reducible first | exact HB.out | apply bwa | apply pwN | apply bwd | refine bws ?_ GE101.out) | exact HB.out)⟩
def item_side.f (a0 : Int) : Option (Bool) := (item_within.f a0 1 64).bind fun t203 => (some t203)
set_option maxHeartbeats 8000000 in
set_option maxRecDepth 100000 in
theorem item_side.calls (a0 : Int) (r : Bool) (w : World) (h : item_side.f a0 = some r) :
  Calls Tryz.prog 70 #[.int .i64 a0] w fun e w' => e = .returned (.bool r) ∧ Drawn0 w w' := by
 have H : ((item_within.f a0 1 64).bind fun t203 => (some t203)) = some r := h
 clear h
 replace H := Option.bind_eq_some_iff.mp H
 obtain ⟨t203, A20, H⟩ := H
 replace H : (some t203) = some r := H
 have A2 := As0.mk A20
 clear A20
 obtain rfl := Option.some.inj H
 go_enter Tryz.func70, Tryz.ntmps70
 go_wp2_with (first | ((with_reducible refine gate_callee (f := 48) rfl ?_); refine goesL_ (some 4) rfl rfl Tryz.func48 (by kernel_rfl) rfl #[.int .i64 a0, .int .i64 1, .int .i64 64] rfl (by (try simp only [List.map_toArray, List.map_cons, List.map_nil]); first | done | rfl | (simp only [List.length_drop, List.length_take]; rfl)) ?_; (with_reducible refine (item_within.calls a0 1 64 t203 _ A2.out).mono ?_); rintro e w' ⟨rfl, ⟨nd, rfl⟩⟩; refine ⟨_, rfl, ?_⟩))
 go_ret
 exact ⟨by first | rfl | (simp; done) | (simp [*]; done), by repeat (first | exact Drawn0.refl _ | apply Drawn0.step)⟩
theorem iwithin_f (a b c : Int) : item_within.f a b c = some (btw a b c) := by
 unfold item_within.f btw
 split
 ·rename_i h; simp [h]
 ·rename_i h; simp [show ¬ b ≤ a from h]
theorem iwithin_is (a b c : Int) (v : Bool) (h : btw a b c = v) (w : World) : Calls Tryz.prog 48 #[.int .i64 a, .int .i64 b, .int .i64 c] w fun e w' => e = .returned (.bool v) ∧ Drawn0 w w' := h ▸ item_within.calls a b c _ w (iwithin_f a b c)
theorem iside_is (a : Int) (v : Bool) (h : btw a 1 64 = v) (w : World) : Calls Tryz.prog 70 #[.int .i64 a] w fun e w' => e = .returned (.bool v) ∧ Drawn0 w w' := h ▸ item_side.calls a _ w (by unfold item_side.f; rw [iwithin_f]; rfl)
theorem enters_109 : ∀ (args : Array Value) (W : World), (callFunc 109 args).run Tryz.prog W = .ok (.enter 109 args) W := enters_of Tryz.func109 (by kernel_rfl) rfl
theorem enters_110 : ∀ (args : Array Value) (W : World), (callFunc 110 args).run Tryz.prog W = .ok (.enter 110 args) W := enters_of Tryz.func110 (by kernel_rfl) rfl
theorem pred_109 (w : World) : PredIn Tryz.prog 109 #[] (fun _ (x : Int) v => v = .int .i64 x) (fun v => !(btw v 0 4095)) w := ⟨enters_109, fun W x v hb he => by
 subst he
 have HC := As0.mk (iwithin_is x 0 4095 _ rfl)
 simp only [Array.append_empty]
 go_enter Tryz.func109, Tryz.ntmps109
 go_wp2_with (refine (HC.out _).mono ?_; rintro e w' ⟨rfl, hd⟩; have HD := As0.mk hd; clear hd)
 go_ret
 exact ⟨rfl, HD.out.below⟩⟩
theorem pred_110 (w : World) : PredIn Tryz.prog 110 #[] (fun _ (x : Int) v => v = .int .i64 x) (fun v => !(btw v (-64) 64)) w := ⟨enters_110, fun W x v hb he => by
 subst he
 have HC := As0.mk (iwithin_is x (-64) 64 _ rfl)
 simp only [Array.append_empty]
 go_enter Tryz.func110, Tryz.ntmps110
 go_wp2_with (refine (HC.out _).mono ?_; rintro e w' ⟨rfl, hd⟩; have HD := As0.mk hd; clear hd)
 go_ret
 exact ⟨rfl, HD.out.below⟩⟩
def item_ranges.f (a0_0 : Int) (a0_1 : Int) (l0_2 : List Int) (l0_3 : List Int) (l0_4 : List Int) (a0_5 : Int) (a0_6 : Int) (a0_7 : Int) (a0_8 : Int) (l0_9 : List Int) (a0_10 : Int) (a0_11 : Bool) : Option Bool :=
 some (if (btw a0_0 1 1000 && btw a0_1 0 3 && btw a0_10 0 3) = false then false
  else if a0_1 = 1 then (l0_3.length : Int) == 1
  else if a0_1 = 2 then btw a0_7 1 64 && btw a0_8 1 64 && btw (l0_9.length : Int) 1 4 && !(l0_9.any fun v => !(btw v 0 4095)) && decide ((l0_3.length : Int) ≤ 8) && ((l0_4.length : Int) == wrap64 (2 * (l0_3.length : Int))) && !(l0_4.any fun v => !(btw v (-64) 64))
  else if a0_1 = 3 then btw a0_7 1 64 && btw a0_8 1 64 && btw a0_5 1 8 && btw a0_6 1 8 && ((l0_3.length : Int) == wrap64 (a0_5 * a0_6))
  else true)
set_option maxHeartbeats 16000000 in
set_option maxRecDepth 100000 in
theorem item_ranges.calls (a0_0 : Int) (a0_1 : Int) (A0_2 : Option Addr) (c0_2 : Nat) (l0_2 : List Int) (A0_3 : Option Addr) (c0_3 : Nat) (l0_3 : List Int) (A0_4 : Option Addr) (c0_4 : Nat) (l0_4 : List Int) (a0_5 : Int) (a0_6 : Int) (a0_7 : Int) (a0_8 : Int) (A0_9 : Option Addr) (c0_9 : Nat) (l0_9 : List Int) (a0_10 : Int) (a0_11 : Bool) (r : Bool) (w : World) (hr0_2 : Kd.C (Kd.int .u8) w A0_2 l0_2.length l0_2) (hc0_2 : l0_2.length ≤ c0_2) (hr0_3 : Kd.C (Kd.int .i64) w A0_3 l0_3.length l0_3) (hc0_3 : l0_3.length ≤ c0_3) (hr0_4 : Kd.C (Kd.int .i64) w A0_4 l0_4.length l0_4) (hc0_4 : l0_4.length ≤ c0_4) (hr0_9 : Kd.C (Kd.int .i64) w A0_9 l0_9.length l0_9) (hc0_9 : l0_9.length ≤ c0_9) (h : item_ranges.f a0_0 a0_1 l0_2 l0_3 l0_4 a0_5 a0_6 a0_7 a0_8 l0_9 a0_10 a0_11 = some r) :
  Calls Tryz.prog 53 #[.agg #[.int .i64 a0_0, .int .i64 a0_1, .slice A0_2 l0_2.length c0_2, .slice A0_3 l0_3.length c0_3, .slice A0_4 l0_4.length c0_4, .int .i64 a0_5, .int .i64 a0_6, .int .i64 a0_7, .int .i64 a0_8, .slice A0_9 l0_9.length c0_9, .int .i64 a0_10, .bool a0_11]] w fun e w' => e = .returned (.bool r) ∧ Below w.heap.size w w' := by
 have hu68 := Tryz.underlying68
 have HR4 := As0.mk hr0_4
 have HR9 := As0.mk hr0_9
 clear hr0_2 hc0_2 hr0_3 hc0_3 hr0_4 hc0_4 hr0_9 hc0_9
 injection h with h
 cases b1 : btw a0_0 1 1000 with
 | false =>
  have HC1 := As0.mk (iwithin_is _ _ _ _ b1)
  simp only [b1, Bool.and_true, Bool.and_false, Bool.true_and, Bool.false_and, Bool.not_true, Bool.not_false, if_true, Bool.true_eq_false, if_false, Int.reduceEq, if_pos, reduceIte] at h
  subst h
  clear b1
  go_enter Tryz.func53, Tryz.ntmps53
  go_wp2_with (first | ((with_reducible refine gdt (N := 1) rfl ?_); refine bxe ?hg (N := 1) ?hd (cs := #[.int .i64 a0_0, .int .i64 a0_1, .slice A0_2 l0_2.length c0_2, .slice A0_3 l0_3.length c0_3, .slice A0_4 l0_4.length c0_4, .int .i64 a0_5, .int .i64 a0_6, .int .i64 a0_7, .int .i64 a0_8, .slice A0_9 l0_9.length c0_9, .int .i64 a0_10, .bool a0_11]) (t := 68) ?hr ?_; (case hd => rfl); (case hg => rfl); (case hr => first | (go_simp; done) | (go_simp; rfl)); intro gb hg w2 hbox hb; have HB2 := As0.mk hb; have BK := As0.mk hbox; have k0 := (bkc hbox 0).trans rfl; have k1 := (bkc hbox 1).trans rfl; have k2 := (bkc hbox 2).trans rfl; have k3 := (bkc hbox 3).trans rfl; have k4 := (bkc hbox 4).trans rfl; have k5 := (bkc hbox 5).trans rfl; have k6 := (bkc hbox 6).trans rfl; have k7 := (bkc hbox 7).trans rfl; have k8 := (bkc hbox 8).trans rfl; have k9 := (bkc hbox 9).trans rfl; have k10 := (bkc hbox 10).trans rfl; have k11 := (bkc hbox 11).trans rfl; clear hb hbox hg) | (go_at_call 48; (with_reducible refine (HC1.out _).mono ?_); rintro e w' ⟨rfl, hd⟩; obtain ⟨n1, rfl⟩ := hd.out; clear hd))
  go_ret
  exact ⟨rfl, by repeat (first | exact HB2.out | apply pwN)⟩
 | true =>
  cases b2 : btw a0_1 0 3 with
  | false =>
   have HC1 := As0.mk (iwithin_is _ _ _ _ b1)
   have HC2 := As0.mk (iwithin_is _ _ _ _ b2)
   simp only [b1, b2, Bool.and_true, Bool.and_false, Bool.true_and, Bool.false_and, Bool.not_true, Bool.not_false, if_true, Bool.true_eq_false, if_false, Int.reduceEq, if_pos, reduceIte] at h
   subst h
   clear b1 b2
   go_enter Tryz.func53, Tryz.ntmps53
   go_wp2_with (first | ((with_reducible refine gdt (N := 1) rfl ?_); refine bxe ?hg (N := 1) ?hd (cs := #[.int .i64 a0_0, .int .i64 a0_1, .slice A0_2 l0_2.length c0_2, .slice A0_3 l0_3.length c0_3, .slice A0_4 l0_4.length c0_4, .int .i64 a0_5, .int .i64 a0_6, .int .i64 a0_7, .int .i64 a0_8, .slice A0_9 l0_9.length c0_9, .int .i64 a0_10, .bool a0_11]) (t := 68) ?hr ?_; (case hd => rfl); (case hg => rfl); (case hr => first | (go_simp; done) | (go_simp; rfl)); intro gb hg w2 hbox hb; have HB2 := As0.mk hb; have BK := As0.mk hbox; have k0 := (bkc hbox 0).trans rfl; have k1 := (bkc hbox 1).trans rfl; have k2 := (bkc hbox 2).trans rfl; have k3 := (bkc hbox 3).trans rfl; have k4 := (bkc hbox 4).trans rfl; have k5 := (bkc hbox 5).trans rfl; have k6 := (bkc hbox 6).trans rfl; have k7 := (bkc hbox 7).trans rfl; have k8 := (bkc hbox 8).trans rfl; have k9 := (bkc hbox 9).trans rfl; have k10 := (bkc hbox 10).trans rfl; have k11 := (bkc hbox 11).trans rfl; clear hb hbox hg) | (go_at_call 48; (with_reducible refine (HC1.out _).mono ?_); rintro e w' ⟨rfl, hd⟩; obtain ⟨n1, rfl⟩ := hd.out; clear hd) | (go_at_call 48; (with_reducible refine (HC2.out _).mono ?_); rintro e w' ⟨rfl, hd⟩; obtain ⟨n2, rfl⟩ := hd.out; clear hd))
   go_ret
   exact ⟨rfl, by repeat (first | exact HB2.out | apply pwN)⟩
  | true =>
   cases b3 : btw a0_10 0 3 with
   | false =>
    have HC1 := As0.mk (iwithin_is _ _ _ _ b1)
    have HC2 := As0.mk (iwithin_is _ _ _ _ b2)
    have HC3 := As0.mk (iwithin_is _ _ _ _ b3)
    simp only [b1, b2, b3, Bool.and_true, Bool.and_false, Bool.true_and, Bool.false_and, Bool.not_true, Bool.not_false, if_true, Bool.true_eq_false, if_false, Int.reduceEq, if_pos, reduceIte] at h
    subst h
    clear b1 b2 b3
    go_enter Tryz.func53, Tryz.ntmps53
    go_wp2_with (first | ((with_reducible refine gdt (N := 1) rfl ?_); refine bxe ?hg (N := 1) ?hd (cs := #[.int .i64 a0_0, .int .i64 a0_1, .slice A0_2 l0_2.length c0_2, .slice A0_3 l0_3.length c0_3, .slice A0_4 l0_4.length c0_4, .int .i64 a0_5, .int .i64 a0_6, .int .i64 a0_7, .int .i64 a0_8, .slice A0_9 l0_9.length c0_9, .int .i64 a0_10, .bool a0_11]) (t := 68) ?hr ?_; (case hd => rfl); (case hg => rfl); (case hr => first | (go_simp; done) | (go_simp; rfl)); intro gb hg w2 hbox hb; have HB2 := As0.mk hb; have BK := As0.mk hbox; have k0 := (bkc hbox 0).trans rfl; have k1 := (bkc hbox 1).trans rfl; have k2 := (bkc hbox 2).trans rfl; have k3 := (bkc hbox 3).trans rfl; have k4 := (bkc hbox 4).trans rfl; have k5 := (bkc hbox 5).trans rfl; have k6 := (bkc hbox 6).trans rfl; have k7 := (bkc hbox 7).trans rfl; have k8 := (bkc hbox 8).trans rfl; have k9 := (bkc hbox 9).trans rfl; have k10 := (bkc hbox 10).trans rfl; have k11 := (bkc hbox 11).trans rfl; clear hb hbox hg) | (go_at_call 48; (with_reducible refine (HC1.out _).mono ?_); rintro e w' ⟨rfl, hd⟩; obtain ⟨n1, rfl⟩ := hd.out; clear hd) | (go_at_call 48; (with_reducible refine (HC2.out _).mono ?_); rintro e w' ⟨rfl, hd⟩; obtain ⟨n2, rfl⟩ := hd.out; clear hd) | (go_at_call 48; (with_reducible refine (HC3.out _).mono ?_); rintro e w' ⟨rfl, hd⟩; obtain ⟨n3, rfl⟩ := hd.out; clear hd))
    go_ret
    exact ⟨rfl, by repeat (first | exact HB2.out | apply pwN)⟩
   | true =>
    have HC1 := As0.mk (iwithin_is _ _ _ _ b1)
    have HC2 := As0.mk (iwithin_is _ _ _ _ b2)
    have HC3 := As0.mk (iwithin_is _ _ _ _ b3)
    have hk : a0_1 = 0 ∨ a0_1 = 1 ∨ a0_1 = 2 ∨ a0_1 = 3 := by simp [btw] at b2; omega
    simp only [b1, b2, b3, Bool.and_true, Bool.true_eq_false, if_false] at h
    clear b1 b2 b3
    rcases hk with rfl | rfl | rfl | rfl
    ·simp only [Int.reduceEq, if_false, reduceIte] at h
     subst h
     go_enter Tryz.func53, Tryz.ntmps53
     go_wp2_with (first | ((with_reducible refine gdt (N := 1) rfl ?_); refine bxe ?hg (N := 1) ?hd (cs := #[.int .i64 a0_0, .int .i64 0, .slice A0_2 l0_2.length c0_2, .slice A0_3 l0_3.length c0_3, .slice A0_4 l0_4.length c0_4, .int .i64 a0_5, .int .i64 a0_6, .int .i64 a0_7, .int .i64 a0_8, .slice A0_9 l0_9.length c0_9, .int .i64 a0_10, .bool a0_11]) (t := 68) ?hr ?_; (case hd => rfl); (case hg => rfl); (case hr => first | (go_simp; done) | (go_simp; rfl)); intro gb hg w2 hbox hb; have HB2 := As0.mk hb; have BK := As0.mk hbox; have k0 := (bkc hbox 0).trans rfl; have k1 := (bkc hbox 1).trans rfl; have k2 := (bkc hbox 2).trans rfl; have k3 := (bkc hbox 3).trans rfl; have k4 := (bkc hbox 4).trans rfl; have k5 := (bkc hbox 5).trans rfl; have k6 := (bkc hbox 6).trans rfl; have k7 := (bkc hbox 7).trans rfl; have k8 := (bkc hbox 8).trans rfl; have k9 := (bkc hbox 9).trans rfl; have k10 := (bkc hbox 10).trans rfl; have k11 := (bkc hbox 11).trans rfl; clear hb hbox hg) | (go_at_call 48; (with_reducible refine (HC1.out _).mono ?_); rintro e w' ⟨rfl, hd⟩; obtain ⟨n1, rfl⟩ := hd.out; clear hd) | (go_at_call 48; (with_reducible refine (HC2.out _).mono ?_); rintro e w' ⟨rfl, hd⟩; obtain ⟨n2, rfl⟩ := hd.out; clear hd) | (go_at_call 48; (with_reducible refine (HC3.out _).mono ?_); rintro e w' ⟨rfl, hd⟩; obtain ⟨n3, rfl⟩ := hd.out; clear hd))
     go_ret
     exact ⟨rfl, by repeat (first | exact HB2.out | apply pwN)⟩
    ·simp only [Int.reduceEq, if_false, if_true, reduceIte] at h
     subst h
     go_enter Tryz.func53, Tryz.ntmps53
     go_wp2_with (first | ((with_reducible refine gdt (N := 1) rfl ?_); refine bxe ?hg (N := 1) ?hd (cs := #[.int .i64 a0_0, .int .i64 1, .slice A0_2 l0_2.length c0_2, .slice A0_3 l0_3.length c0_3, .slice A0_4 l0_4.length c0_4, .int .i64 a0_5, .int .i64 a0_6, .int .i64 a0_7, .int .i64 a0_8, .slice A0_9 l0_9.length c0_9, .int .i64 a0_10, .bool a0_11]) (t := 68) ?hr ?_; (case hd => rfl); (case hg => rfl); (case hr => first | (go_simp; done) | (go_simp; rfl)); intro gb hg w2 hbox hb; have HB2 := As0.mk hb; have BK := As0.mk hbox; have k0 := (bkc hbox 0).trans rfl; have k1 := (bkc hbox 1).trans rfl; have k2 := (bkc hbox 2).trans rfl; have k3 := (bkc hbox 3).trans rfl; have k4 := (bkc hbox 4).trans rfl; have k5 := (bkc hbox 5).trans rfl; have k6 := (bkc hbox 6).trans rfl; have k7 := (bkc hbox 7).trans rfl; have k8 := (bkc hbox 8).trans rfl; have k9 := (bkc hbox 9).trans rfl; have k10 := (bkc hbox 10).trans rfl; have k11 := (bkc hbox 11).trans rfl; clear hb hbox hg) | (go_at_call 48; (with_reducible refine (HC1.out _).mono ?_); rintro e w' ⟨rfl, hd⟩; obtain ⟨n1, rfl⟩ := hd.out; clear hd) | (go_at_call 48; (with_reducible refine (HC2.out _).mono ?_); rintro e w' ⟨rfl, hd⟩; obtain ⟨n2, rfl⟩ := hd.out; clear hd) | (go_at_call 48; (with_reducible refine (HC3.out _).mono ?_); rintro e w' ⟨rfl, hd⟩; obtain ⟨n3, rfl⟩ := hd.out; clear hd))
     go_ret
     exact ⟨rfl, by repeat (first | exact HB2.out | apply pwN)⟩
    ·simp only [Int.reduceEq, if_false, if_true, reduceIte] at h
     cases b4 : btw a0_7 1 64 with
     | false =>
      simp only [b4, Bool.and_true, Bool.and_false, Bool.true_and, Bool.false_and, Bool.not_true, Bool.not_false, if_true, Bool.true_eq_false, if_false, Int.reduceEq, if_pos, reduceIte] at h
      subst h
      have HC4 := As0.mk (iside_is _ _ b4)
      clear b4
      go_enter Tryz.func53, Tryz.ntmps53
      go_wp2_with (first | ((with_reducible refine gdt (N := 1) rfl ?_); refine bxe ?hg (N := 1) ?hd (cs := #[.int .i64 a0_0, .int .i64 2, .slice A0_2 l0_2.length c0_2, .slice A0_3 l0_3.length c0_3, .slice A0_4 l0_4.length c0_4, .int .i64 a0_5, .int .i64 a0_6, .int .i64 a0_7, .int .i64 a0_8, .slice A0_9 l0_9.length c0_9, .int .i64 a0_10, .bool a0_11]) (t := 68) ?hr ?_; (case hd => rfl); (case hg => rfl); (case hr => first | (go_simp; done) | (go_simp; rfl)); intro gb hg w2 hbox hb; have HB2 := As0.mk hb; have BK := As0.mk hbox; have k0 := (bkc hbox 0).trans rfl; have k1 := (bkc hbox 1).trans rfl; have k2 := (bkc hbox 2).trans rfl; have k3 := (bkc hbox 3).trans rfl; have k4 := (bkc hbox 4).trans rfl; have k5 := (bkc hbox 5).trans rfl; have k6 := (bkc hbox 6).trans rfl; have k7 := (bkc hbox 7).trans rfl; have k8 := (bkc hbox 8).trans rfl; have k9 := (bkc hbox 9).trans rfl; have k10 := (bkc hbox 10).trans rfl; have k11 := (bkc hbox 11).trans rfl; clear hb hbox hg) | (go_at_call 48; (with_reducible refine (HC1.out _).mono ?_); rintro e w' ⟨rfl, hd⟩; obtain ⟨n1, rfl⟩ := hd.out; clear hd) | (go_at_call 48; (with_reducible refine (HC2.out _).mono ?_); rintro e w' ⟨rfl, hd⟩; obtain ⟨n2, rfl⟩ := hd.out; clear hd) | (go_at_call 48; (with_reducible refine (HC3.out _).mono ?_); rintro e w' ⟨rfl, hd⟩; obtain ⟨n3, rfl⟩ := hd.out; clear hd) | (go_at_call 70; (with_reducible refine (HC4.out _).mono ?_); rintro e w' ⟨rfl, hd⟩; obtain ⟨n4, rfl⟩ := hd.out; clear hd))
      go_ret
      exact ⟨rfl, by repeat (first | exact HB2.out | apply pwN)⟩
     | true =>
      cases b5 : btw a0_8 1 64 with
      | false =>
       simp only [b4, b5, Bool.and_true, Bool.and_false, Bool.true_and, Bool.false_and, Bool.not_true, Bool.not_false, if_true, Bool.true_eq_false, if_false, Int.reduceEq, if_pos, reduceIte] at h
       subst h
       have HC4 := As0.mk (iside_is _ _ b4)
       have HC5 := As0.mk (iside_is _ _ b5)
       clear b4 b5
       go_enter Tryz.func53, Tryz.ntmps53
       go_wp2_with (first | ((with_reducible refine gdt (N := 1) rfl ?_); refine bxe ?hg (N := 1) ?hd (cs := #[.int .i64 a0_0, .int .i64 2, .slice A0_2 l0_2.length c0_2, .slice A0_3 l0_3.length c0_3, .slice A0_4 l0_4.length c0_4, .int .i64 a0_5, .int .i64 a0_6, .int .i64 a0_7, .int .i64 a0_8, .slice A0_9 l0_9.length c0_9, .int .i64 a0_10, .bool a0_11]) (t := 68) ?hr ?_; (case hd => rfl); (case hg => rfl); (case hr => first | (go_simp; done) | (go_simp; rfl)); intro gb hg w2 hbox hb; have HB2 := As0.mk hb; have BK := As0.mk hbox; have k0 := (bkc hbox 0).trans rfl; have k1 := (bkc hbox 1).trans rfl; have k2 := (bkc hbox 2).trans rfl; have k3 := (bkc hbox 3).trans rfl; have k4 := (bkc hbox 4).trans rfl; have k5 := (bkc hbox 5).trans rfl; have k6 := (bkc hbox 6).trans rfl; have k7 := (bkc hbox 7).trans rfl; have k8 := (bkc hbox 8).trans rfl; have k9 := (bkc hbox 9).trans rfl; have k10 := (bkc hbox 10).trans rfl; have k11 := (bkc hbox 11).trans rfl; clear hb hbox hg) | (go_at_call 48; (with_reducible refine (HC1.out _).mono ?_); rintro e w' ⟨rfl, hd⟩; obtain ⟨n1, rfl⟩ := hd.out; clear hd) | (go_at_call 48; (with_reducible refine (HC2.out _).mono ?_); rintro e w' ⟨rfl, hd⟩; obtain ⟨n2, rfl⟩ := hd.out; clear hd) | (go_at_call 48; (with_reducible refine (HC3.out _).mono ?_); rintro e w' ⟨rfl, hd⟩; obtain ⟨n3, rfl⟩ := hd.out; clear hd) | (go_at_call 70; (with_reducible refine (HC4.out _).mono ?_); rintro e w' ⟨rfl, hd⟩; obtain ⟨n4, rfl⟩ := hd.out; clear hd) | (go_at_call 70; (with_reducible refine (HC5.out _).mono ?_); rintro e w' ⟨rfl, hd⟩; obtain ⟨n5, rfl⟩ := hd.out; clear hd))
       go_ret
       exact ⟨rfl, by repeat (first | exact HB2.out | apply pwN)⟩
      | true =>
       cases b6 : btw (l0_9.length : Int) 1 4 with
       | false =>
        simp only [b4, b5, b6, Bool.and_true, Bool.and_false, Bool.true_and, Bool.false_and, Bool.not_true, Bool.not_false, if_true, Bool.true_eq_false, if_false, Int.reduceEq, if_pos, reduceIte] at h
        subst h
        have HC4 := As0.mk (iside_is _ _ b4)
        have HC5 := As0.mk (iside_is _ _ b5)
        have HC6 := As0.mk (iwithin_is _ _ _ _ b6)
        clear b4 b5 b6
        go_enter Tryz.func53, Tryz.ntmps53
        go_wp2_with (first | ((with_reducible refine gdt (N := 1) rfl ?_); refine bxe ?hg (N := 1) ?hd (cs := #[.int .i64 a0_0, .int .i64 2, .slice A0_2 l0_2.length c0_2, .slice A0_3 l0_3.length c0_3, .slice A0_4 l0_4.length c0_4, .int .i64 a0_5, .int .i64 a0_6, .int .i64 a0_7, .int .i64 a0_8, .slice A0_9 l0_9.length c0_9, .int .i64 a0_10, .bool a0_11]) (t := 68) ?hr ?_; (case hd => rfl); (case hg => rfl); (case hr => first | (go_simp; done) | (go_simp; rfl)); intro gb hg w2 hbox hb; have HB2 := As0.mk hb; have BK := As0.mk hbox; have k0 := (bkc hbox 0).trans rfl; have k1 := (bkc hbox 1).trans rfl; have k2 := (bkc hbox 2).trans rfl; have k3 := (bkc hbox 3).trans rfl; have k4 := (bkc hbox 4).trans rfl; have k5 := (bkc hbox 5).trans rfl; have k6 := (bkc hbox 6).trans rfl; have k7 := (bkc hbox 7).trans rfl; have k8 := (bkc hbox 8).trans rfl; have k9 := (bkc hbox 9).trans rfl; have k10 := (bkc hbox 10).trans rfl; have k11 := (bkc hbox 11).trans rfl; clear hb hbox hg) | (go_at_call 48; (with_reducible refine (HC1.out _).mono ?_); rintro e w' ⟨rfl, hd⟩; obtain ⟨n1, rfl⟩ := hd.out; clear hd) | (go_at_call 48; (with_reducible refine (HC2.out _).mono ?_); rintro e w' ⟨rfl, hd⟩; obtain ⟨n2, rfl⟩ := hd.out; clear hd) | (go_at_call 48; (with_reducible refine (HC3.out _).mono ?_); rintro e w' ⟨rfl, hd⟩; obtain ⟨n3, rfl⟩ := hd.out; clear hd) | (go_at_call 70; (with_reducible refine (HC4.out _).mono ?_); rintro e w' ⟨rfl, hd⟩; obtain ⟨n4, rfl⟩ := hd.out; clear hd) | (go_at_call 70; (with_reducible refine (HC5.out _).mono ?_); rintro e w' ⟨rfl, hd⟩; obtain ⟨n5, rfl⟩ := hd.out; clear hd) | (go_at_call 48; (with_reducible refine (HC6.out _).mono ?_); rintro e w' ⟨rfl, hd⟩; obtain ⟨n6, rfl⟩ := hd.out; clear hd))
        go_ret
        exact ⟨rfl, by repeat (first | exact HB2.out | apply pwN)⟩
       | true =>
        cases b7 : l0_9.any (fun v => !(btw v 0 4095)) with
        | true =>
         simp only [b4, b5, b6, b7, Bool.and_true, Bool.and_false, Bool.true_and, Bool.false_and, Bool.not_true, Bool.not_false, if_true, Bool.true_eq_false, if_false, Int.reduceEq, if_pos, reduceIte] at h
         subst h
         have HC4 := As0.mk (iside_is _ _ b4)
         have HC5 := As0.mk (iside_is _ _ b5)
         have HC6 := As0.mk (iwithin_is _ _ _ _ b6)
         have HC7 := As0.mk b7
         clear b4 b5 b6 b7
         go_enter Tryz.func53, Tryz.ntmps53
         go_wp2_with (first | ((with_reducible refine gdt (N := 1) rfl ?_); refine bxe ?hg (N := 1) ?hd (cs := #[.int .i64 a0_0, .int .i64 2, .slice A0_2 l0_2.length c0_2, .slice A0_3 l0_3.length c0_3, .slice A0_4 l0_4.length c0_4, .int .i64 a0_5, .int .i64 a0_6, .int .i64 a0_7, .int .i64 a0_8, .slice A0_9 l0_9.length c0_9, .int .i64 a0_10, .bool a0_11]) (t := 68) ?hr ?_; (case hd => rfl); (case hg => rfl); (case hr => first | (go_simp; done) | (go_simp; rfl)); intro gb hg w2 hbox hb; have HB2 := As0.mk hb; have BK := As0.mk hbox; have k0 := (bkc hbox 0).trans rfl; have k1 := (bkc hbox 1).trans rfl; have k2 := (bkc hbox 2).trans rfl; have k3 := (bkc hbox 3).trans rfl; have k4 := (bkc hbox 4).trans rfl; have k5 := (bkc hbox 5).trans rfl; have k6 := (bkc hbox 6).trans rfl; have k7 := (bkc hbox 7).trans rfl; have k8 := (bkc hbox 8).trans rfl; have k9 := (bkc hbox 9).trans rfl; have k10 := (bkc hbox 10).trans rfl; have k11 := (bkc hbox 11).trans rfl; clear hb hbox hg) | (go_at_call 48; (with_reducible refine (HC1.out _).mono ?_); rintro e w' ⟨rfl, hd⟩; obtain ⟨n1, rfl⟩ := hd.out; clear hd) | (go_at_call 48; (with_reducible refine (HC2.out _).mono ?_); rintro e w' ⟨rfl, hd⟩; obtain ⟨n2, rfl⟩ := hd.out; clear hd) | (go_at_call 48; (with_reducible refine (HC3.out _).mono ?_); rintro e w' ⟨rfl, hd⟩; obtain ⟨n3, rfl⟩ := hd.out; clear hd) | (go_at_call 70; (with_reducible refine (HC4.out _).mono ?_); rintro e w' ⟨rfl, hd⟩; obtain ⟨n4, rfl⟩ := hd.out; clear hd) | (go_at_call 70; (with_reducible refine (HC5.out _).mono ?_); rintro e w' ⟨rfl, hd⟩; obtain ⟨n5, rfl⟩ := hd.out; clear hd) | (go_at_call 48; (with_reducible refine (HC6.out _).mono ?_); rintro e w' ⟨rfl, hd⟩; obtain ⟨n6, rfl⟩ := hd.out; clear hd) | (go_at_call 56; (with_reducible refine (ContainsFunc_int.calls 109 #[] (fun v => !(btw v 0 4095)) A0_9 c0_9 l0_9 _ ?hC ?hP).mono ?_); (case hC => exact Kd.C_below HR9.out (by repeat (first | exact HB2.out | apply pwN))); (case hP => exact pred_109 _); rintro e w' ⟨rfl, hb⟩; have HBc7 := As0.mk (pwt (by repeat (first | exact HB2.out | apply pwN)) hb); have BKc7 := As0.mk ((hb.block gb (by exact blk_lt BK.out)).trans (by exact BK.out)); clear hb; rw [HC7.out]; have k0 := (bkc BKc7.out 0).trans rfl; have k1 := (bkc BKc7.out 1).trans rfl; have k2 := (bkc BKc7.out 2).trans rfl; have k3 := (bkc BKc7.out 3).trans rfl; have k4 := (bkc BKc7.out 4).trans rfl; have k5 := (bkc BKc7.out 5).trans rfl; have k6 := (bkc BKc7.out 6).trans rfl; have k7 := (bkc BKc7.out 7).trans rfl; have k8 := (bkc BKc7.out 8).trans rfl; have k9 := (bkc BKc7.out 9).trans rfl; have k10 := (bkc BKc7.out 10).trans rfl; have k11 := (bkc BKc7.out 11).trans rfl))
         go_ret
         exact ⟨rfl, by repeat (first | exact HBc7.out | apply pwN)⟩
        | false =>
         cases b8 : decide ((l0_3.length : Int) ≤ 8) with
         | false =>
          simp only [b4, b5, b6, b7, b8, Bool.and_true, Bool.and_false, Bool.true_and, Bool.false_and, Bool.not_true, Bool.not_false, if_true, Bool.true_eq_false, if_false, Int.reduceEq, if_pos, reduceIte] at h
          subst h
          have HC4 := As0.mk (iside_is _ _ b4)
          have HC5 := As0.mk (iside_is _ _ b5)
          have HC6 := As0.mk (iwithin_is _ _ _ _ b6)
          have HC7 := As0.mk b7
          clear b4 b5 b6 b7
          go_enter Tryz.func53, Tryz.ntmps53
          go_wp2_with (first | ((with_reducible refine gdt (N := 1) rfl ?_); refine bxe ?hg (N := 1) ?hd (cs := #[.int .i64 a0_0, .int .i64 2, .slice A0_2 l0_2.length c0_2, .slice A0_3 l0_3.length c0_3, .slice A0_4 l0_4.length c0_4, .int .i64 a0_5, .int .i64 a0_6, .int .i64 a0_7, .int .i64 a0_8, .slice A0_9 l0_9.length c0_9, .int .i64 a0_10, .bool a0_11]) (t := 68) ?hr ?_; (case hd => rfl); (case hg => rfl); (case hr => first | (go_simp; done) | (go_simp; rfl)); intro gb hg w2 hbox hb; have HB2 := As0.mk hb; have BK := As0.mk hbox; have k0 := (bkc hbox 0).trans rfl; have k1 := (bkc hbox 1).trans rfl; have k2 := (bkc hbox 2).trans rfl; have k3 := (bkc hbox 3).trans rfl; have k4 := (bkc hbox 4).trans rfl; have k5 := (bkc hbox 5).trans rfl; have k6 := (bkc hbox 6).trans rfl; have k7 := (bkc hbox 7).trans rfl; have k8 := (bkc hbox 8).trans rfl; have k9 := (bkc hbox 9).trans rfl; have k10 := (bkc hbox 10).trans rfl; have k11 := (bkc hbox 11).trans rfl; clear hb hbox hg) | (go_at_call 48; (with_reducible refine (HC1.out _).mono ?_); rintro e w' ⟨rfl, hd⟩; obtain ⟨n1, rfl⟩ := hd.out; clear hd) | (go_at_call 48; (with_reducible refine (HC2.out _).mono ?_); rintro e w' ⟨rfl, hd⟩; obtain ⟨n2, rfl⟩ := hd.out; clear hd) | (go_at_call 48; (with_reducible refine (HC3.out _).mono ?_); rintro e w' ⟨rfl, hd⟩; obtain ⟨n3, rfl⟩ := hd.out; clear hd) | (go_at_call 70; (with_reducible refine (HC4.out _).mono ?_); rintro e w' ⟨rfl, hd⟩; obtain ⟨n4, rfl⟩ := hd.out; clear hd) | (go_at_call 70; (with_reducible refine (HC5.out _).mono ?_); rintro e w' ⟨rfl, hd⟩; obtain ⟨n5, rfl⟩ := hd.out; clear hd) | (go_at_call 48; (with_reducible refine (HC6.out _).mono ?_); rintro e w' ⟨rfl, hd⟩; obtain ⟨n6, rfl⟩ := hd.out; clear hd) | (go_at_call 56; (with_reducible refine (ContainsFunc_int.calls 109 #[] (fun v => !(btw v 0 4095)) A0_9 c0_9 l0_9 _ ?hC ?hP).mono ?_); (case hC => exact Kd.C_below HR9.out (by repeat (first | exact HB2.out | apply pwN))); (case hP => exact pred_109 _); rintro e w' ⟨rfl, hb⟩; have HBc7 := As0.mk (pwt (by repeat (first | exact HB2.out | apply pwN)) hb); have BKc7 := As0.mk ((hb.block gb (by exact blk_lt BK.out)).trans (by exact BK.out)); clear hb; rw [HC7.out]; have k0 := (bkc BKc7.out 0).trans rfl; have k1 := (bkc BKc7.out 1).trans rfl; have k2 := (bkc BKc7.out 2).trans rfl; have k3 := (bkc BKc7.out 3).trans rfl; have k4 := (bkc BKc7.out 4).trans rfl; have k5 := (bkc BKc7.out 5).trans rfl; have k6 := (bkc BKc7.out 6).trans rfl; have k7 := (bkc BKc7.out 7).trans rfl; have k8 := (bkc BKc7.out 8).trans rfl; have k9 := (bkc BKc7.out 9).trans rfl; have k10 := (bkc BKc7.out 10).trans rfl; have k11 := (bkc BKc7.out 11).trans rfl))
          go_ret
          exact ⟨rfl, by repeat (first | exact HBc7.out | apply pwN)⟩
         | true =>
          cases b9 : ((l0_4.length : Int) == wrap64 (2 * (l0_3.length : Int))) with
          | false =>
           simp only [b4, b5, b6, b7, b8, b9, Bool.and_true, Bool.and_false, Bool.true_and, Bool.false_and, Bool.not_true, Bool.not_false, if_true, Bool.true_eq_false, if_false, Int.reduceEq, if_pos, reduceIte] at h
           subst h
           have HC4 := As0.mk (iside_is _ _ b4)
           have HC5 := As0.mk (iside_is _ _ b5)
           have HC6 := As0.mk (iwithin_is _ _ _ _ b6)
           have HC7 := As0.mk b7
           clear b4 b5 b6 b7
           go_enter Tryz.func53, Tryz.ntmps53
           go_wp2_with (first | ((with_reducible refine gdt (N := 1) rfl ?_); refine bxe ?hg (N := 1) ?hd (cs := #[.int .i64 a0_0, .int .i64 2, .slice A0_2 l0_2.length c0_2, .slice A0_3 l0_3.length c0_3, .slice A0_4 l0_4.length c0_4, .int .i64 a0_5, .int .i64 a0_6, .int .i64 a0_7, .int .i64 a0_8, .slice A0_9 l0_9.length c0_9, .int .i64 a0_10, .bool a0_11]) (t := 68) ?hr ?_; (case hd => rfl); (case hg => rfl); (case hr => first | (go_simp; done) | (go_simp; rfl)); intro gb hg w2 hbox hb; have HB2 := As0.mk hb; have BK := As0.mk hbox; have k0 := (bkc hbox 0).trans rfl; have k1 := (bkc hbox 1).trans rfl; have k2 := (bkc hbox 2).trans rfl; have k3 := (bkc hbox 3).trans rfl; have k4 := (bkc hbox 4).trans rfl; have k5 := (bkc hbox 5).trans rfl; have k6 := (bkc hbox 6).trans rfl; have k7 := (bkc hbox 7).trans rfl; have k8 := (bkc hbox 8).trans rfl; have k9 := (bkc hbox 9).trans rfl; have k10 := (bkc hbox 10).trans rfl; have k11 := (bkc hbox 11).trans rfl; clear hb hbox hg) | (go_at_call 48; (with_reducible refine (HC1.out _).mono ?_); rintro e w' ⟨rfl, hd⟩; obtain ⟨n1, rfl⟩ := hd.out; clear hd) | (go_at_call 48; (with_reducible refine (HC2.out _).mono ?_); rintro e w' ⟨rfl, hd⟩; obtain ⟨n2, rfl⟩ := hd.out; clear hd) | (go_at_call 48; (with_reducible refine (HC3.out _).mono ?_); rintro e w' ⟨rfl, hd⟩; obtain ⟨n3, rfl⟩ := hd.out; clear hd) | (go_at_call 70; (with_reducible refine (HC4.out _).mono ?_); rintro e w' ⟨rfl, hd⟩; obtain ⟨n4, rfl⟩ := hd.out; clear hd) | (go_at_call 70; (with_reducible refine (HC5.out _).mono ?_); rintro e w' ⟨rfl, hd⟩; obtain ⟨n5, rfl⟩ := hd.out; clear hd) | (go_at_call 48; (with_reducible refine (HC6.out _).mono ?_); rintro e w' ⟨rfl, hd⟩; obtain ⟨n6, rfl⟩ := hd.out; clear hd) | (go_at_call 56; (with_reducible refine (ContainsFunc_int.calls 109 #[] (fun v => !(btw v 0 4095)) A0_9 c0_9 l0_9 _ ?hC ?hP).mono ?_); (case hC => exact Kd.C_below HR9.out (by repeat (first | exact HB2.out | apply pwN))); (case hP => exact pred_109 _); rintro e w' ⟨rfl, hb⟩; have HBc7 := As0.mk (pwt (by repeat (first | exact HB2.out | apply pwN)) hb); have BKc7 := As0.mk ((hb.block gb (by exact blk_lt BK.out)).trans (by exact BK.out)); clear hb; rw [HC7.out]; have k0 := (bkc BKc7.out 0).trans rfl; have k1 := (bkc BKc7.out 1).trans rfl; have k2 := (bkc BKc7.out 2).trans rfl; have k3 := (bkc BKc7.out 3).trans rfl; have k4 := (bkc BKc7.out 4).trans rfl; have k5 := (bkc BKc7.out 5).trans rfl; have k6 := (bkc BKc7.out 6).trans rfl; have k7 := (bkc BKc7.out 7).trans rfl; have k8 := (bkc BKc7.out 8).trans rfl; have k9 := (bkc BKc7.out 9).trans rfl; have k10 := (bkc BKc7.out 10).trans rfl; have k11 := (bkc BKc7.out 11).trans rfl))
           go_ret
           exact ⟨rfl, by repeat (first | exact HBc7.out | apply pwN)⟩
          | true =>
           cases b10 : l0_4.any (fun v => !(btw v (-64) 64)) with
           | false =>
            simp only [b4, b5, b6, b7, b8, b9, b10, Bool.and_true, Bool.and_false, Bool.true_and, Bool.false_and, Bool.not_true, Bool.not_false, if_true, Bool.true_eq_false, if_false, Int.reduceEq, if_pos, reduceIte] at h
            subst h
            have HC4 := As0.mk (iside_is _ _ b4)
            have HC5 := As0.mk (iside_is _ _ b5)
            have HC6 := As0.mk (iwithin_is _ _ _ _ b6)
            have HC7 := As0.mk b7
            have HC10 := As0.mk b10
            clear b4 b5 b6 b7 b10
            go_enter Tryz.func53, Tryz.ntmps53
            go_wp2_with (first | ((with_reducible refine gdt (N := 1) rfl ?_); refine bxe ?hg (N := 1) ?hd (cs := #[.int .i64 a0_0, .int .i64 2, .slice A0_2 l0_2.length c0_2, .slice A0_3 l0_3.length c0_3, .slice A0_4 l0_4.length c0_4, .int .i64 a0_5, .int .i64 a0_6, .int .i64 a0_7, .int .i64 a0_8, .slice A0_9 l0_9.length c0_9, .int .i64 a0_10, .bool a0_11]) (t := 68) ?hr ?_; (case hd => rfl); (case hg => rfl); (case hr => first | (go_simp; done) | (go_simp; rfl)); intro gb hg w2 hbox hb; have HB2 := As0.mk hb; have BK := As0.mk hbox; have k0 := (bkc hbox 0).trans rfl; have k1 := (bkc hbox 1).trans rfl; have k2 := (bkc hbox 2).trans rfl; have k3 := (bkc hbox 3).trans rfl; have k4 := (bkc hbox 4).trans rfl; have k5 := (bkc hbox 5).trans rfl; have k6 := (bkc hbox 6).trans rfl; have k7 := (bkc hbox 7).trans rfl; have k8 := (bkc hbox 8).trans rfl; have k9 := (bkc hbox 9).trans rfl; have k10 := (bkc hbox 10).trans rfl; have k11 := (bkc hbox 11).trans rfl; clear hb hbox hg) | (go_at_call 48; (with_reducible refine (HC1.out _).mono ?_); rintro e w' ⟨rfl, hd⟩; obtain ⟨n1, rfl⟩ := hd.out; clear hd) | (go_at_call 48; (with_reducible refine (HC2.out _).mono ?_); rintro e w' ⟨rfl, hd⟩; obtain ⟨n2, rfl⟩ := hd.out; clear hd) | (go_at_call 48; (with_reducible refine (HC3.out _).mono ?_); rintro e w' ⟨rfl, hd⟩; obtain ⟨n3, rfl⟩ := hd.out; clear hd) | (go_at_call 70; (with_reducible refine (HC4.out _).mono ?_); rintro e w' ⟨rfl, hd⟩; obtain ⟨n4, rfl⟩ := hd.out; clear hd) | (go_at_call 70; (with_reducible refine (HC5.out _).mono ?_); rintro e w' ⟨rfl, hd⟩; obtain ⟨n5, rfl⟩ := hd.out; clear hd) | (go_at_call 48; (with_reducible refine (HC6.out _).mono ?_); rintro e w' ⟨rfl, hd⟩; obtain ⟨n6, rfl⟩ := hd.out; clear hd) | (go_at_call 56; (with_reducible refine (ContainsFunc_int.calls 109 #[] (fun v => !(btw v 0 4095)) A0_9 c0_9 l0_9 _ ?hC ?hP).mono ?_); (case hC => exact Kd.C_below HR9.out (by repeat (first | exact HB2.out | apply pwN))); (case hP => exact pred_109 _); rintro e w' ⟨rfl, hb⟩; have HBc7 := As0.mk (pwt (by repeat (first | exact HB2.out | apply pwN)) hb); have BKc7 := As0.mk ((hb.block gb (by exact blk_lt BK.out)).trans (by exact BK.out)); clear hb; rw [HC7.out]; have k0 := (bkc BKc7.out 0).trans rfl; have k1 := (bkc BKc7.out 1).trans rfl; have k2 := (bkc BKc7.out 2).trans rfl; have k3 := (bkc BKc7.out 3).trans rfl; have k4 := (bkc BKc7.out 4).trans rfl; have k5 := (bkc BKc7.out 5).trans rfl; have k6 := (bkc BKc7.out 6).trans rfl; have k7 := (bkc BKc7.out 7).trans rfl; have k8 := (bkc BKc7.out 8).trans rfl; have k9 := (bkc BKc7.out 9).trans rfl; have k10 := (bkc BKc7.out 10).trans rfl; have k11 := (bkc BKc7.out 11).trans rfl) | (go_at_call 56; (with_reducible refine (ContainsFunc_int.calls 110 #[] (fun v => !(btw v (-64) 64)) A0_4 c0_4 l0_4 _ ?hC ?hP).mono ?_); (case hC => exact Kd.C_below HR4.out (by repeat (first | exact HBc7.out | apply pwN))); (case hP => exact pred_110 _); rintro e w' ⟨rfl, hb⟩; have HBc10 := As0.mk (pwt (by repeat (first | exact HBc7.out | apply pwN)) hb); have BKc10 := As0.mk ((hb.block gb (by exact blk_lt BKc7.out)).trans (by exact BKc7.out)); clear hb; rw [HC10.out]; have k0 := (bkc BKc10.out 0).trans rfl; have k1 := (bkc BKc10.out 1).trans rfl; have k2 := (bkc BKc10.out 2).trans rfl; have k3 := (bkc BKc10.out 3).trans rfl; have k4 := (bkc BKc10.out 4).trans rfl; have k5 := (bkc BKc10.out 5).trans rfl; have k6 := (bkc BKc10.out 6).trans rfl; have k7 := (bkc BKc10.out 7).trans rfl; have k8 := (bkc BKc10.out 8).trans rfl; have k9 := (bkc BKc10.out 9).trans rfl; have k10 := (bkc BKc10.out 10).trans rfl; have k11 := (bkc BKc10.out 11).trans rfl))
            go_ret
            exact ⟨rfl, by repeat (first | exact HBc10.out | apply pwN)⟩
           | true =>
            simp only [b4, b5, b6, b7, b8, b9, b10, Bool.and_true, Bool.and_false, Bool.true_and, Bool.false_and, Bool.not_true, Bool.not_false, if_true, Bool.true_eq_false, if_false, Int.reduceEq, if_pos, reduceIte] at h
            subst h
            have HC4 := As0.mk (iside_is _ _ b4)
            have HC5 := As0.mk (iside_is _ _ b5)
            have HC6 := As0.mk (iwithin_is _ _ _ _ b6)
            have HC7 := As0.mk b7
            have HC10 := As0.mk b10
            clear b4 b5 b6 b7 b10
            go_enter Tryz.func53, Tryz.ntmps53
            go_wp2_with (first | ((with_reducible refine gdt (N := 1) rfl ?_); refine bxe ?hg (N := 1) ?hd (cs := #[.int .i64 a0_0, .int .i64 2, .slice A0_2 l0_2.length c0_2, .slice A0_3 l0_3.length c0_3, .slice A0_4 l0_4.length c0_4, .int .i64 a0_5, .int .i64 a0_6, .int .i64 a0_7, .int .i64 a0_8, .slice A0_9 l0_9.length c0_9, .int .i64 a0_10, .bool a0_11]) (t := 68) ?hr ?_; (case hd => rfl); (case hg => rfl); (case hr => first | (go_simp; done) | (go_simp; rfl)); intro gb hg w2 hbox hb; have HB2 := As0.mk hb; have BK := As0.mk hbox; have k0 := (bkc hbox 0).trans rfl; have k1 := (bkc hbox 1).trans rfl; have k2 := (bkc hbox 2).trans rfl; have k3 := (bkc hbox 3).trans rfl; have k4 := (bkc hbox 4).trans rfl; have k5 := (bkc hbox 5).trans rfl; have k6 := (bkc hbox 6).trans rfl; have k7 := (bkc hbox 7).trans rfl; have k8 := (bkc hbox 8).trans rfl; have k9 := (bkc hbox 9).trans rfl; have k10 := (bkc hbox 10).trans rfl; have k11 := (bkc hbox 11).trans rfl; clear hb hbox hg) | (go_at_call 48; (with_reducible refine (HC1.out _).mono ?_); rintro e w' ⟨rfl, hd⟩; obtain ⟨n1, rfl⟩ := hd.out; clear hd) | (go_at_call 48; (with_reducible refine (HC2.out _).mono ?_); rintro e w' ⟨rfl, hd⟩; obtain ⟨n2, rfl⟩ := hd.out; clear hd) | (go_at_call 48; (with_reducible refine (HC3.out _).mono ?_); rintro e w' ⟨rfl, hd⟩; obtain ⟨n3, rfl⟩ := hd.out; clear hd) | (go_at_call 70; (with_reducible refine (HC4.out _).mono ?_); rintro e w' ⟨rfl, hd⟩; obtain ⟨n4, rfl⟩ := hd.out; clear hd) | (go_at_call 70; (with_reducible refine (HC5.out _).mono ?_); rintro e w' ⟨rfl, hd⟩; obtain ⟨n5, rfl⟩ := hd.out; clear hd) | (go_at_call 48; (with_reducible refine (HC6.out _).mono ?_); rintro e w' ⟨rfl, hd⟩; obtain ⟨n6, rfl⟩ := hd.out; clear hd) | (go_at_call 56; (with_reducible refine (ContainsFunc_int.calls 109 #[] (fun v => !(btw v 0 4095)) A0_9 c0_9 l0_9 _ ?hC ?hP).mono ?_); (case hC => exact Kd.C_below HR9.out (by repeat (first | exact HB2.out | apply pwN))); (case hP => exact pred_109 _); rintro e w' ⟨rfl, hb⟩; have HBc7 := As0.mk (pwt (by repeat (first | exact HB2.out | apply pwN)) hb); have BKc7 := As0.mk ((hb.block gb (by exact blk_lt BK.out)).trans (by exact BK.out)); clear hb; rw [HC7.out]; have k0 := (bkc BKc7.out 0).trans rfl; have k1 := (bkc BKc7.out 1).trans rfl; have k2 := (bkc BKc7.out 2).trans rfl; have k3 := (bkc BKc7.out 3).trans rfl; have k4 := (bkc BKc7.out 4).trans rfl; have k5 := (bkc BKc7.out 5).trans rfl; have k6 := (bkc BKc7.out 6).trans rfl; have k7 := (bkc BKc7.out 7).trans rfl; have k8 := (bkc BKc7.out 8).trans rfl; have k9 := (bkc BKc7.out 9).trans rfl; have k10 := (bkc BKc7.out 10).trans rfl; have k11 := (bkc BKc7.out 11).trans rfl) | (go_at_call 56; (with_reducible refine (ContainsFunc_int.calls 110 #[] (fun v => !(btw v (-64) 64)) A0_4 c0_4 l0_4 _ ?hC ?hP).mono ?_); (case hC => exact Kd.C_below HR4.out (by repeat (first | exact HBc7.out | apply pwN))); (case hP => exact pred_110 _); rintro e w' ⟨rfl, hb⟩; have HBc10 := As0.mk (pwt (by repeat (first | exact HBc7.out | apply pwN)) hb); have BKc10 := As0.mk ((hb.block gb (by exact blk_lt BKc7.out)).trans (by exact BKc7.out)); clear hb; rw [HC10.out]; have k0 := (bkc BKc10.out 0).trans rfl; have k1 := (bkc BKc10.out 1).trans rfl; have k2 := (bkc BKc10.out 2).trans rfl; have k3 := (bkc BKc10.out 3).trans rfl; have k4 := (bkc BKc10.out 4).trans rfl; have k5 := (bkc BKc10.out 5).trans rfl; have k6 := (bkc BKc10.out 6).trans rfl; have k7 := (bkc BKc10.out 7).trans rfl; have k8 := (bkc BKc10.out 8).trans rfl; have k9 := (bkc BKc10.out 9).trans rfl; have k10 := (bkc BKc10.out 10).trans rfl; have k11 := (bkc BKc10.out 11).trans rfl))
            go_ret
            exact ⟨rfl, by repeat (first | exact HBc10.out | apply pwN)⟩
    ·simp only [Int.reduceEq, if_false, if_true, reduceIte] at h
     cases b4 : btw a0_7 1 64 with
     | false =>
      simp only [b4, Bool.and_true, Bool.and_false, Bool.true_and, Bool.false_and, Bool.not_true, Bool.not_false, if_true, Bool.true_eq_false, if_false, Int.reduceEq, if_pos, reduceIte] at h
      subst h
      have HC4 := As0.mk (iside_is _ _ b4)
      clear b4
      go_enter Tryz.func53, Tryz.ntmps53
      go_wp2_with (first | ((with_reducible refine gdt (N := 1) rfl ?_); refine bxe ?hg (N := 1) ?hd (cs := #[.int .i64 a0_0, .int .i64 3, .slice A0_2 l0_2.length c0_2, .slice A0_3 l0_3.length c0_3, .slice A0_4 l0_4.length c0_4, .int .i64 a0_5, .int .i64 a0_6, .int .i64 a0_7, .int .i64 a0_8, .slice A0_9 l0_9.length c0_9, .int .i64 a0_10, .bool a0_11]) (t := 68) ?hr ?_; (case hd => rfl); (case hg => rfl); (case hr => first | (go_simp; done) | (go_simp; rfl)); intro gb hg w2 hbox hb; have HB2 := As0.mk hb; have BK := As0.mk hbox; have k0 := (bkc hbox 0).trans rfl; have k1 := (bkc hbox 1).trans rfl; have k2 := (bkc hbox 2).trans rfl; have k3 := (bkc hbox 3).trans rfl; have k4 := (bkc hbox 4).trans rfl; have k5 := (bkc hbox 5).trans rfl; have k6 := (bkc hbox 6).trans rfl; have k7 := (bkc hbox 7).trans rfl; have k8 := (bkc hbox 8).trans rfl; have k9 := (bkc hbox 9).trans rfl; have k10 := (bkc hbox 10).trans rfl; have k11 := (bkc hbox 11).trans rfl; clear hb hbox hg) | (go_at_call 48; (with_reducible refine (HC1.out _).mono ?_); rintro e w' ⟨rfl, hd⟩; obtain ⟨n1, rfl⟩ := hd.out; clear hd) | (go_at_call 48; (with_reducible refine (HC2.out _).mono ?_); rintro e w' ⟨rfl, hd⟩; obtain ⟨n2, rfl⟩ := hd.out; clear hd) | (go_at_call 48; (with_reducible refine (HC3.out _).mono ?_); rintro e w' ⟨rfl, hd⟩; obtain ⟨n3, rfl⟩ := hd.out; clear hd) | (go_at_call 70; (with_reducible refine (HC4.out _).mono ?_); rintro e w' ⟨rfl, hd⟩; obtain ⟨n4, rfl⟩ := hd.out; clear hd))
      go_ret
      exact ⟨rfl, by repeat (first | exact HB2.out | apply pwN)⟩
     | true =>
      cases b5 : btw a0_8 1 64 with
      | false =>
       simp only [b4, b5, Bool.and_true, Bool.and_false, Bool.true_and, Bool.false_and, Bool.not_true, Bool.not_false, if_true, Bool.true_eq_false, if_false, Int.reduceEq, if_pos, reduceIte] at h
       subst h
       have HC4 := As0.mk (iside_is _ _ b4)
       have HC5 := As0.mk (iside_is _ _ b5)
       clear b4 b5
       go_enter Tryz.func53, Tryz.ntmps53
       go_wp2_with (first | ((with_reducible refine gdt (N := 1) rfl ?_); refine bxe ?hg (N := 1) ?hd (cs := #[.int .i64 a0_0, .int .i64 3, .slice A0_2 l0_2.length c0_2, .slice A0_3 l0_3.length c0_3, .slice A0_4 l0_4.length c0_4, .int .i64 a0_5, .int .i64 a0_6, .int .i64 a0_7, .int .i64 a0_8, .slice A0_9 l0_9.length c0_9, .int .i64 a0_10, .bool a0_11]) (t := 68) ?hr ?_; (case hd => rfl); (case hg => rfl); (case hr => first | (go_simp; done) | (go_simp; rfl)); intro gb hg w2 hbox hb; have HB2 := As0.mk hb; have BK := As0.mk hbox; have k0 := (bkc hbox 0).trans rfl; have k1 := (bkc hbox 1).trans rfl; have k2 := (bkc hbox 2).trans rfl; have k3 := (bkc hbox 3).trans rfl; have k4 := (bkc hbox 4).trans rfl; have k5 := (bkc hbox 5).trans rfl; have k6 := (bkc hbox 6).trans rfl; have k7 := (bkc hbox 7).trans rfl; have k8 := (bkc hbox 8).trans rfl; have k9 := (bkc hbox 9).trans rfl; have k10 := (bkc hbox 10).trans rfl; have k11 := (bkc hbox 11).trans rfl; clear hb hbox hg) | (go_at_call 48; (with_reducible refine (HC1.out _).mono ?_); rintro e w' ⟨rfl, hd⟩; obtain ⟨n1, rfl⟩ := hd.out; clear hd) | (go_at_call 48; (with_reducible refine (HC2.out _).mono ?_); rintro e w' ⟨rfl, hd⟩; obtain ⟨n2, rfl⟩ := hd.out; clear hd) | (go_at_call 48; (with_reducible refine (HC3.out _).mono ?_); rintro e w' ⟨rfl, hd⟩; obtain ⟨n3, rfl⟩ := hd.out; clear hd) | (go_at_call 70; (with_reducible refine (HC4.out _).mono ?_); rintro e w' ⟨rfl, hd⟩; obtain ⟨n4, rfl⟩ := hd.out; clear hd) | (go_at_call 70; (with_reducible refine (HC5.out _).mono ?_); rintro e w' ⟨rfl, hd⟩; obtain ⟨n5, rfl⟩ := hd.out; clear hd))
       go_ret
       exact ⟨rfl, by repeat (first | exact HB2.out | apply pwN)⟩
      | true =>
       cases b6 : btw a0_5 1 8 with
       | false =>
        simp only [b4, b5, b6, Bool.and_true, Bool.and_false, Bool.true_and, Bool.false_and, Bool.not_true, Bool.not_false, if_true, Bool.true_eq_false, if_false, Int.reduceEq, if_pos, reduceIte] at h
        subst h
        have HC4 := As0.mk (iside_is _ _ b4)
        have HC5 := As0.mk (iside_is _ _ b5)
        have HC6 := As0.mk (iwithin_is _ _ _ _ b6)
        clear b4 b5 b6
        go_enter Tryz.func53, Tryz.ntmps53
        go_wp2_with (first | ((with_reducible refine gdt (N := 1) rfl ?_); refine bxe ?hg (N := 1) ?hd (cs := #[.int .i64 a0_0, .int .i64 3, .slice A0_2 l0_2.length c0_2, .slice A0_3 l0_3.length c0_3, .slice A0_4 l0_4.length c0_4, .int .i64 a0_5, .int .i64 a0_6, .int .i64 a0_7, .int .i64 a0_8, .slice A0_9 l0_9.length c0_9, .int .i64 a0_10, .bool a0_11]) (t := 68) ?hr ?_; (case hd => rfl); (case hg => rfl); (case hr => first | (go_simp; done) | (go_simp; rfl)); intro gb hg w2 hbox hb; have HB2 := As0.mk hb; have BK := As0.mk hbox; have k0 := (bkc hbox 0).trans rfl; have k1 := (bkc hbox 1).trans rfl; have k2 := (bkc hbox 2).trans rfl; have k3 := (bkc hbox 3).trans rfl; have k4 := (bkc hbox 4).trans rfl; have k5 := (bkc hbox 5).trans rfl; have k6 := (bkc hbox 6).trans rfl; have k7 := (bkc hbox 7).trans rfl; have k8 := (bkc hbox 8).trans rfl; have k9 := (bkc hbox 9).trans rfl; have k10 := (bkc hbox 10).trans rfl; have k11 := (bkc hbox 11).trans rfl; clear hb hbox hg) | (go_at_call 48; (with_reducible refine (HC1.out _).mono ?_); rintro e w' ⟨rfl, hd⟩; obtain ⟨n1, rfl⟩ := hd.out; clear hd) | (go_at_call 48; (with_reducible refine (HC2.out _).mono ?_); rintro e w' ⟨rfl, hd⟩; obtain ⟨n2, rfl⟩ := hd.out; clear hd) | (go_at_call 48; (with_reducible refine (HC3.out _).mono ?_); rintro e w' ⟨rfl, hd⟩; obtain ⟨n3, rfl⟩ := hd.out; clear hd) | (go_at_call 70; (with_reducible refine (HC4.out _).mono ?_); rintro e w' ⟨rfl, hd⟩; obtain ⟨n4, rfl⟩ := hd.out; clear hd) | (go_at_call 70; (with_reducible refine (HC5.out _).mono ?_); rintro e w' ⟨rfl, hd⟩; obtain ⟨n5, rfl⟩ := hd.out; clear hd) | (go_at_call 48; (with_reducible refine (HC6.out _).mono ?_); rintro e w' ⟨rfl, hd⟩; obtain ⟨n6, rfl⟩ := hd.out; clear hd))
        go_ret
        exact ⟨rfl, by repeat (first | exact HB2.out | apply pwN)⟩
       | true =>
        cases b7 : btw a0_6 1 8 with
        | false =>
         simp only [b4, b5, b6, b7, Bool.and_true, Bool.and_false, Bool.true_and, Bool.false_and, Bool.not_true, Bool.not_false, if_true, Bool.true_eq_false, if_false, Int.reduceEq, if_pos, reduceIte] at h
         subst h
         have HC4 := As0.mk (iside_is _ _ b4)
         have HC5 := As0.mk (iside_is _ _ b5)
         have HC6 := As0.mk (iwithin_is _ _ _ _ b6)
         have HC7 := As0.mk (iwithin_is _ _ _ _ b7)
         clear b4 b5 b6 b7
         go_enter Tryz.func53, Tryz.ntmps53
         go_wp2_with (first | ((with_reducible refine gdt (N := 1) rfl ?_); refine bxe ?hg (N := 1) ?hd (cs := #[.int .i64 a0_0, .int .i64 3, .slice A0_2 l0_2.length c0_2, .slice A0_3 l0_3.length c0_3, .slice A0_4 l0_4.length c0_4, .int .i64 a0_5, .int .i64 a0_6, .int .i64 a0_7, .int .i64 a0_8, .slice A0_9 l0_9.length c0_9, .int .i64 a0_10, .bool a0_11]) (t := 68) ?hr ?_; (case hd => rfl); (case hg => rfl); (case hr => first | (go_simp; done) | (go_simp; rfl)); intro gb hg w2 hbox hb; have HB2 := As0.mk hb; have BK := As0.mk hbox; have k0 := (bkc hbox 0).trans rfl; have k1 := (bkc hbox 1).trans rfl; have k2 := (bkc hbox 2).trans rfl; have k3 := (bkc hbox 3).trans rfl; have k4 := (bkc hbox 4).trans rfl; have k5 := (bkc hbox 5).trans rfl; have k6 := (bkc hbox 6).trans rfl; have k7 := (bkc hbox 7).trans rfl; have k8 := (bkc hbox 8).trans rfl; have k9 := (bkc hbox 9).trans rfl; have k10 := (bkc hbox 10).trans rfl; have k11 := (bkc hbox 11).trans rfl; clear hb hbox hg) | (go_at_call 48; (with_reducible refine (HC1.out _).mono ?_); rintro e w' ⟨rfl, hd⟩; obtain ⟨n1, rfl⟩ := hd.out; clear hd) | (go_at_call 48; (with_reducible refine (HC2.out _).mono ?_); rintro e w' ⟨rfl, hd⟩; obtain ⟨n2, rfl⟩ := hd.out; clear hd) | (go_at_call 48; (with_reducible refine (HC3.out _).mono ?_); rintro e w' ⟨rfl, hd⟩; obtain ⟨n3, rfl⟩ := hd.out; clear hd) | (go_at_call 70; (with_reducible refine (HC4.out _).mono ?_); rintro e w' ⟨rfl, hd⟩; obtain ⟨n4, rfl⟩ := hd.out; clear hd) | (go_at_call 70; (with_reducible refine (HC5.out _).mono ?_); rintro e w' ⟨rfl, hd⟩; obtain ⟨n5, rfl⟩ := hd.out; clear hd) | (go_at_call 48; (with_reducible refine (HC6.out _).mono ?_); rintro e w' ⟨rfl, hd⟩; obtain ⟨n6, rfl⟩ := hd.out; clear hd) | (go_at_call 48; (with_reducible refine (HC7.out _).mono ?_); rintro e w' ⟨rfl, hd⟩; obtain ⟨n7, rfl⟩ := hd.out; clear hd))
         go_ret
         exact ⟨rfl, by repeat (first | exact HB2.out | apply pwN)⟩
        | true =>
         cases b8 : ((l0_3.length : Int) == wrap64 (a0_5 * a0_6)) with
         | false =>
          simp only [b4, b5, b6, b7, b8, Bool.and_true, Bool.and_false, Bool.true_and, Bool.false_and, Bool.not_true, Bool.not_false, if_true, Bool.true_eq_false, if_false, Int.reduceEq, if_pos, reduceIte] at h
          subst h
          have HC4 := As0.mk (iside_is _ _ b4)
          have HC5 := As0.mk (iside_is _ _ b5)
          have HC6 := As0.mk (iwithin_is _ _ _ _ b6)
          have HC7 := As0.mk (iwithin_is _ _ _ _ b7)
          clear b4 b5 b6 b7
          go_enter Tryz.func53, Tryz.ntmps53
          go_wp2_with (first | ((with_reducible refine gdt (N := 1) rfl ?_); refine bxe ?hg (N := 1) ?hd (cs := #[.int .i64 a0_0, .int .i64 3, .slice A0_2 l0_2.length c0_2, .slice A0_3 l0_3.length c0_3, .slice A0_4 l0_4.length c0_4, .int .i64 a0_5, .int .i64 a0_6, .int .i64 a0_7, .int .i64 a0_8, .slice A0_9 l0_9.length c0_9, .int .i64 a0_10, .bool a0_11]) (t := 68) ?hr ?_; (case hd => rfl); (case hg => rfl); (case hr => first | (go_simp; done) | (go_simp; rfl)); intro gb hg w2 hbox hb; have HB2 := As0.mk hb; have BK := As0.mk hbox; have k0 := (bkc hbox 0).trans rfl; have k1 := (bkc hbox 1).trans rfl; have k2 := (bkc hbox 2).trans rfl; have k3 := (bkc hbox 3).trans rfl; have k4 := (bkc hbox 4).trans rfl; have k5 := (bkc hbox 5).trans rfl; have k6 := (bkc hbox 6).trans rfl; have k7 := (bkc hbox 7).trans rfl; have k8 := (bkc hbox 8).trans rfl; have k9 := (bkc hbox 9).trans rfl; have k10 := (bkc hbox 10).trans rfl; have k11 := (bkc hbox 11).trans rfl; clear hb hbox hg) | (go_at_call 48; (with_reducible refine (HC1.out _).mono ?_); rintro e w' ⟨rfl, hd⟩; obtain ⟨n1, rfl⟩ := hd.out; clear hd) | (go_at_call 48; (with_reducible refine (HC2.out _).mono ?_); rintro e w' ⟨rfl, hd⟩; obtain ⟨n2, rfl⟩ := hd.out; clear hd) | (go_at_call 48; (with_reducible refine (HC3.out _).mono ?_); rintro e w' ⟨rfl, hd⟩; obtain ⟨n3, rfl⟩ := hd.out; clear hd) | (go_at_call 70; (with_reducible refine (HC4.out _).mono ?_); rintro e w' ⟨rfl, hd⟩; obtain ⟨n4, rfl⟩ := hd.out; clear hd) | (go_at_call 70; (with_reducible refine (HC5.out _).mono ?_); rintro e w' ⟨rfl, hd⟩; obtain ⟨n5, rfl⟩ := hd.out; clear hd) | (go_at_call 48; (with_reducible refine (HC6.out _).mono ?_); rintro e w' ⟨rfl, hd⟩; obtain ⟨n6, rfl⟩ := hd.out; clear hd) | (go_at_call 48; (with_reducible refine (HC7.out _).mono ?_); rintro e w' ⟨rfl, hd⟩; obtain ⟨n7, rfl⟩ := hd.out; clear hd))
          go_ret
          exact ⟨rfl, by repeat (first | exact HB2.out | apply pwN)⟩
         | true =>
          simp only [b4, b5, b6, b7, b8, Bool.and_true, Bool.and_false, Bool.true_and, Bool.false_and, Bool.not_true, Bool.not_false, if_true, Bool.true_eq_false, if_false, Int.reduceEq, if_pos, reduceIte] at h
          subst h
          have HC4 := As0.mk (iside_is _ _ b4)
          have HC5 := As0.mk (iside_is _ _ b5)
          have HC6 := As0.mk (iwithin_is _ _ _ _ b6)
          have HC7 := As0.mk (iwithin_is _ _ _ _ b7)
          clear b4 b5 b6 b7
          go_enter Tryz.func53, Tryz.ntmps53
          go_wp2_with (first | ((with_reducible refine gdt (N := 1) rfl ?_); refine bxe ?hg (N := 1) ?hd (cs := #[.int .i64 a0_0, .int .i64 3, .slice A0_2 l0_2.length c0_2, .slice A0_3 l0_3.length c0_3, .slice A0_4 l0_4.length c0_4, .int .i64 a0_5, .int .i64 a0_6, .int .i64 a0_7, .int .i64 a0_8, .slice A0_9 l0_9.length c0_9, .int .i64 a0_10, .bool a0_11]) (t := 68) ?hr ?_; (case hd => rfl); (case hg => rfl); (case hr => first | (go_simp; done) | (go_simp; rfl)); intro gb hg w2 hbox hb; have HB2 := As0.mk hb; have BK := As0.mk hbox; have k0 := (bkc hbox 0).trans rfl; have k1 := (bkc hbox 1).trans rfl; have k2 := (bkc hbox 2).trans rfl; have k3 := (bkc hbox 3).trans rfl; have k4 := (bkc hbox 4).trans rfl; have k5 := (bkc hbox 5).trans rfl; have k6 := (bkc hbox 6).trans rfl; have k7 := (bkc hbox 7).trans rfl; have k8 := (bkc hbox 8).trans rfl; have k9 := (bkc hbox 9).trans rfl; have k10 := (bkc hbox 10).trans rfl; have k11 := (bkc hbox 11).trans rfl; clear hb hbox hg) | (go_at_call 48; (with_reducible refine (HC1.out _).mono ?_); rintro e w' ⟨rfl, hd⟩; obtain ⟨n1, rfl⟩ := hd.out; clear hd) | (go_at_call 48; (with_reducible refine (HC2.out _).mono ?_); rintro e w' ⟨rfl, hd⟩; obtain ⟨n2, rfl⟩ := hd.out; clear hd) | (go_at_call 48; (with_reducible refine (HC3.out _).mono ?_); rintro e w' ⟨rfl, hd⟩; obtain ⟨n3, rfl⟩ := hd.out; clear hd) | (go_at_call 70; (with_reducible refine (HC4.out _).mono ?_); rintro e w' ⟨rfl, hd⟩; obtain ⟨n4, rfl⟩ := hd.out; clear hd) | (go_at_call 70; (with_reducible refine (HC5.out _).mono ?_); rintro e w' ⟨rfl, hd⟩; obtain ⟨n5, rfl⟩ := hd.out; clear hd) | (go_at_call 48; (with_reducible refine (HC6.out _).mono ?_); rintro e w' ⟨rfl, hd⟩; obtain ⟨n6, rfl⟩ := hd.out; clear hd) | (go_at_call 48; (with_reducible refine (HC7.out _).mono ?_); rintro e w' ⟨rfl, hd⟩; obtain ⟨n7, rfl⟩ := hd.out; clear hd))
          go_ret
          exact ⟨rfl, by repeat (first | exact HB2.out | apply pwN)⟩
set_option maxHeartbeats 8000000 in
set_option maxRecDepth 100000 in
theorem IndexFunc_item.calls (g : FuncId) (caps : Array Value) (p : S68 → Bool) (A0 : Option Addr) (c0 : Nat) (l0 : List S68) (w : World) (hr0 : Kd.C k68 w A0 l0.length l0)
  (hp : PredIn Tryz.prog g caps (fun W (x : S68) v => ∃ cs : List Value, v = .agg cs.toArray ∧ k68.K W x cs) p w) :
  Calls Tryz.prog 111 #[.slice A0 l0.length c0, .func (.func g) #[] caps] w fun e w' => e = .returned (.int .i64 (idxOf p l0)) ∧ Below w.heap.size w w' := by
 have HR0 := As0.mk hr0
 have hlen := As0.mk hr0.2.1
 clear hr0
 have HB := As0.mk (Below.refl w.heap.size w)
 have HP := As0.mk hp
 have hen := hp.enters
 clear hp
 have HI : As0 (0 ≤ (0 : Int) ∧ (0 : Int) + (l0.length : Nat) = l0.length ∧ idxAux p (l0.drop (0 : Int).toNat) (0 : Int).toNat = idxOf p l0) := ⟨by omega, by omega, rfl⟩
 go_enter Tryz.func111, Tryz.ntmps111
 go_wp2
 go_loopg [8] l0.length (fun kq v8 w' => ∃ i : Int, v8 = .int .i64 i ∧ As0 (0 ≤ i ∧ i + kq = l0.length ∧ idxAux p (l0.drop i.toNat) i.toNat = idxOf p l0) ∧ As0 (Below w.heap.size w w'))
 case atStart => exact ⟨0, rfl, HI, HB⟩
 case round =>
  clear HI HB
  obtain ⟨i, rfl, HI, HB⟩ := hrel
  cases gk with
  | zero =>
   have hge : decide (i < (l0.length : Int)) = false := by have := HI.out; simp; omega
   go_wp2
   go_ret
   exact ⟨by rw [← HI.out.2.2, idxOf_end p l0 i.toNat (by have := HI.out; omega)]; rfl, HB.out⟩
  | succ k1 =>
   have h0 : 0 ≤ i := by have := HI.out; omega
   have h1 : i < (l0.length : Int) := by have := HI.out; omega
   have hge : decide (i < (l0.length : Int)) = true := decide_eq_true h1
   have hg0 : decide (0 ≤ i) = true := decide_eq_true h0
   obtain ⟨ad, A2, c2, A3, c3, A4, c4, A9, c9, e0, hx0, hx1, hx2, hx3, hx4, hx5, hx6, hx7, hx8, hx9, hx10, hx11, hl2, hi2, hl3, hi3, hl4, hi4, hl9, hi9⟩ := at_T68 HR0.out i h0 h1
   cases e0
   replace hx0 := (HB.out.cell (World.block_lt_of_cell? w _ hx0)).trans hx0
   replace hx1 := (HB.out.cell (World.block_lt_of_cell? w _ hx1)).trans hx1
   replace hx2 := (HB.out.cell (World.block_lt_of_cell? w _ hx2)).trans hx2
   replace hx3 := (HB.out.cell (World.block_lt_of_cell? w _ hx3)).trans hx3
   replace hx4 := (HB.out.cell (World.block_lt_of_cell? w _ hx4)).trans hx4
   replace hx5 := (HB.out.cell (World.block_lt_of_cell? w _ hx5)).trans hx5
   replace hx6 := (HB.out.cell (World.block_lt_of_cell? w _ hx6)).trans hx6
   replace hx7 := (HB.out.cell (World.block_lt_of_cell? w _ hx7)).trans hx7
   replace hx8 := (HB.out.cell (World.block_lt_of_cell? w _ hx8)).trans hx8
   replace hx9 := (HB.out.cell (World.block_lt_of_cell? w _ hx9)).trans hx9
   replace hx10 := (HB.out.cell (World.block_lt_of_cell? w _ hx10)).trans hx10
   replace hx11 := (HB.out.cell (World.block_lt_of_cell? w _ hx11)).trans hx11
   have hx : As0 (l0[i.toNat]? = some (rd_T68 l0 i)) := ⟨by
    have hl : i.toNat < l0.length := by omega
    simp [rd_T68, List.getElem?_eq_getElem hl, List.getD_eq_getElem?_getD]⟩
   have HC := As0.mk (HP.out.tells wr (rd_T68 l0 i) _ HB.out ⟨_, rfl, k68_mk wr (rd_T68 l0 i) hl2 (Kd.C_below hi2 HB.out) hl3 (Kd.C_below hi3 HB.out) hl4 (Kd.C_below hi4 HB.out) hl9 (Kd.C_below hi9 HB.out)⟩)
   clear hl2 hi2 hl3 hi3 hl4 hi4 hl9 hi9
   generalize rd_T68 l0 i = x at *
   replace h0 := eq_true h0
   replace h1 := eq_true h1
   cases hpx : p x with
   | true =>
    have HPX := As0.mk hpx
    rw [hpx] at HC
    clear hpx
    go_wp2_with (refine HC.out.mono ?_; rintro e w' ⟨rfl, hb⟩; have HB2 := As0.mk hb; clear hb)
    go_ret
    have h2 := HI.out.2.2
    exact ⟨by rw [← h2, idxOf_step p l0 i.toNat x hx.out, if_pos HPX.out, Int.toNat_of_nonneg HI.out.1]; rfl, (pwt HB.out HB2.out)⟩
   | false =>
    have HPX := As0.mk hpx
    rw [hpx] at HC
    clear hpx
    go_wp2_with (refine HC.out.mono ?_; rintro e w' ⟨rfl, hb⟩; have HB2 := As0.mk hb; clear hb)
    go_roundg k1
    case measure => omega
    case rel =>
     have hw : wrap64 (i + 1) = i + 1 := by have := HI.out; have := hlen.out; unfold wrap64; omega
     have h2 := HI.out.2.2
     refine ⟨i + 1, congrArg _ hw, ⟨by have := HI.out; omega, by have := HI.out; omega, ?_⟩, ⟨pwt HB.out HB2.out⟩⟩
     rw [← h2, idxOf_step p l0 i.toNat x hx.out, if_neg (by simp [HPX.out]), show (i + 1).toNat = i.toNat + 1 from by have := HI.out; omega]
theorem enters_112 : ∀ (args : Array Value) (W : World), (callFunc 112 args).run Tryz.prog W = .ok (.enter 112 args) W := enters_of Tryz.func112 (by kernel_rfl) rfl
def item_find.f (l0 : List S68) (a1 : Int) : Option Int := some (idxOf (fun x => x.f0 == a1) l0)
set_option maxHeartbeats 8000000 in
set_option maxRecDepth 100000 in
theorem pred_112 (id : Int) (gb : Nat) (w : World) (hb : w.heap[gb]? = some (.cells #[.int .i64 id] 3 (0, 0))) : PredIn Tryz.prog 112 #[.pointer (some ⟨gb, 0, none⟩)] (fun W (x : S68) v => ∃ cs : List Value, v = .agg cs.toArray ∧ k68.K W x cs) (fun x => x.f0 == id) w := ⟨enters_112, fun W x v hW he => by
 obtain ⟨cs, rfl, hK⟩ := he
 obtain ⟨A2, c2, A3, c3, A4, c4, A9, c9, rfl, _⟩ := k68_open hK
 have hu68 := Tryz.underlying68
 have BK := (hW.block gb (blk_lt hb)).trans hb
 have k0 := (bkc BK 0).trans rfl
 have k1 : ∀ o : Obj, (W.alloc o).cell? ⟨gb, 0, none⟩ = some (.int .i64 id) := fun o => (World.cell?_alloc_lt W o _ (blk_lt BK)).trans k0
 clear k0
 clear hb hK BK hW
 simp only [List.append_toArray, List.cons_append, List.nil_append]
 go_enter Tryz.func112, Tryz.ntmps112
 go_wp2
 go_ret
 exact ⟨rfl, by repeat (first | exact Below.refl _ _ | apply bwa)⟩⟩
set_option maxHeartbeats 8000000 in
set_option maxRecDepth 100000 in
theorem item_find.calls (A0 : Option Addr) (c0 : Nat) (l0 : List S68) (a1 : Int) (r : Int) (w : World) (hr0 : Kd.C k68 w A0 l0.length l0) (hc0 : l0.length ≤ c0) (h : item_find.f l0 a1 = some r) :
  Calls Tryz.prog 55 #[.slice A0 l0.length c0, .int .i64 a1] w fun e w' => e = .returned (.int .i64 r) ∧ Below w.heap.size w w' := by
 have HR := As0.mk hr0
 clear hr0 hc0
 injection h with h
 subst h
 have hmf := makeFunc_run
 go_enter Tryz.func55, Tryz.ntmps55
 go_wp2_with (go_at_call 111; (with_reducible refine (IndexFunc_item.calls 112 #[.pointer (some ⟨w.heap.size, 0, none⟩)] (fun x => x.f0 == a1) A0 c0 l0 _ ?hC ?hP).mono ?_); (case hC => exact Kd.C_alloc HR.out _); (case hP => exact pred_112 a1 w.heap.size _ (heap_alloc_new w _)); rintro e w' ⟨rfl, hb⟩; have HBc := As0.mk (pwt (bwa (Below.refl _ _) _) hb); clear hb)
 go_ret
 exact ⟨rfl, HBc.out⟩
theorem enters_114 : ∀ (args : Array Value) (W : World), (callFunc 114 args).run Tryz.prog W = .ok (.enter 114 args) W := enters_of Tryz.func114 (by kernel_rfl) rfl
def findI (l : List S68) (id : Int) : Int := idxOf (fun x => x.f0 == id) l
def goL (l : List S68) (i : Int) (go : Int → List Bool → Option (Bool × List Bool)) : List Int → List Bool → Option (Bool × List Bool)
 | [], seen => some (false, seen)
 | id :: ids, seen =>
  if findI l id = i then some (true, seen)
  else if 0 ≤ findI l id ∧ findI l id < (seen.length : Int) then
   if rdOf false seen (findI l id) = true then goL l i go ids seen
   else (go (findI l id) (seen.set (findI l id).toNat true)).bind fun r => if r.1 = true then some r else goL l i go ids r.2
  else none
def walkN (l : List S68) (i : Int) : Nat → Int → List Bool → Option (Bool × List Bool)
 | 0, _, _ => none
 | f + 1, k, seen => if 0 ≤ k ∧ k < (l.length : Int) ∧ seen.length = l.length then goL l i (walkN l i f) (rd_T68 l k).f3 seen else none
structure LoopsW (w0 w : World) (g1 g2 g3 g4 gs : Nat) (A0 : Option Addr) (c0 cs : Nat) (l : List S68) (i : Int) (seen : List Bool) : Prop where
 b1 : w.heap[g1]? = some (.cells #[.slice A0 l.length c0] 35 (0, 0))
 b2 : w.heap[g2]? = some (.cells #[.int .i64 i] 3 (0, 0))
 b3 : w.heap[g3]? = some (.cells #[.slice (some ⟨gs, 0, none⟩) l.length cs] 93 (0, 0))
 b4 : w.heap[g4]? = some (.cells #[.func (.func 114) #[] #[.pointer (some ⟨g1, 0, none⟩), .pointer (some ⟨g2, 0, none⟩), .pointer (some ⟨g3, 0, none⟩), .pointer (some ⟨g4, 0, none⟩)]] 92 (0, 0))
 row : Kd.R Kd.bool 4 w w0.heap.size (fun _ => True) (.slice (some ⟨gs, 0, none⟩) l.length cs) seen
 len : seen.length = l.length
 below : Below w0.heap.size w0 w
theorem LoopsW.keep {w0 w w1 : World} {g1 g2 g3 g4 gs : Nat} {A0 : Option Addr} {c0 cs : Nat} {l : List S68} {i : Int} {seen : List Bool} (h : LoopsW w0 w g1 g2 g3 g4 gs A0 c0 cs l i seen) (hb : Below w.heap.size w w1) : LoopsW w0 w1 g1 g2 g3 g4 gs A0 c0 cs l i seen :=
 ⟨bkb h.b1 hb, bkb h.b2 hb, bkb h.b3 hb, bkb h.b4 hb, Kd.R_below h.row hb, h.len, pwt h.below hb⟩
theorem LoopsW.gs_ge {w0 w : World} {g1 g2 g3 g4 gs : Nat} {A0 : Option Addr} {c0 cs : Nat} {l : List S68} {i : Int} {seen : List Bool} (h : LoopsW w0 w g1 g2 g3 g4 gs A0 c0 cs l i seen) : w0.heap.size ≤ gs := by
 obtain ⟨inner, ho⟩ := Kd.R_own h.row
 exact own_base ho gs rfl
theorem LoopsW.see {w0 w : World} {g1 g2 g3 g4 gs : Nat} {A0 : Option Addr} {c0 cs : Nat} {l : List S68} {i : Int} {seen : List Bool} (h : LoopsW w0 w g1 g2 g3 g4 gs A0 c0 cs l i seen) (n : Int) : LoopsW w0 (w.setCell ⟨gs, n.toNat, none⟩ (.bool true)) g1 g2 g3 g4 gs A0 c0 cs l i (seen.set n.toNat true) := by
 have hp := Kd.R_putg h.row n true
 have ne : ∀ {g t : Nat} {cells : Array Value}, w.heap[g]? = some (.cells cells t (0, 0)) → 4 ≠ t → g ≠ gs := fun hb ht he => Kd.R_ne h.row hb ht (by simp [Value.ownBlock, he])
 exact ⟨bkf h.b1 (ne h.b1 (by decide)) _, bkf h.b2 (ne h.b2 (by decide)) _, bkf h.b3 (ne h.b3 (by decide)) _, bkf h.b4 (ne h.b4 (by decide)) _, hp.1, by rw [List.length_set]; exact h.len,
  h.below.grown hp.2 h.below.size (fun k hk => by have := h.gs_ge; injection hk with hk; omega)⟩
theorem goL_drop (l : List S68) (i : Int) (go : Int → List Bool → Option (Bool × List Bool)) (ids : List Int) (j : Nat) (id : Int) (seen : List Bool) (h : ids[j]? = some id) :
  goL l i go (ids.drop j) seen = if findI l id = i then some (true, seen)
  else if 0 ≤ findI l id ∧ findI l id < (seen.length : Int) then
   if rdOf false seen (findI l id) = true then goL l i go (ids.drop (j + 1)) seen
   else (go (findI l id) (seen.set (findI l id).toNat true)).bind fun r => if r.1 = true then some r else goL l i go (ids.drop (j + 1)) r.2
  else none := by
 obtain ⟨hl, he⟩ := List.getElem?_eq_some_iff.1 h
 rw [List.drop_eq_getElem_cons hl, he]
 rfl
set_option maxHeartbeats 16000000 in
set_option maxRecDepth 100000 in
theorem walk_any (l : List S68) (i : Int) (w0 : World) (A0 : Option Addr) (c0 : Nat) (hr0 : Kd.C k68 w0 A0 l.length l) (hc0 : l.length ≤ c0) (f : Nat) : ∀ (k : Int) (seen : List Bool) (r : Bool × List Bool) (w : World) (g1 g2 g3 g4 gs cs : Nat),
  LoopsW w0 w g1 g2 g3 g4 gs A0 c0 cs l i seen → walkN l i f k seen = some r →
  Calls Tryz.prog 114 #[.int .i64 k, .pointer (some ⟨g1, 0, none⟩), .pointer (some ⟨g2, 0, none⟩), .pointer (some ⟨g3, 0, none⟩), .pointer (some ⟨g4, 0, none⟩)] w
   fun e w' => e = .returned (.bool r.1) ∧ LoopsW w0 w' g1 g2 g3 g4 gs A0 c0 cs l i r.2 := by
 induction f with
 | zero => intro k seen r w g1 g2 g3 g4 gs cs _ h; cases h
 | succ f ih =>
  intro k seen r w g1 g2 g3 g4 gs cs hL h
  simp only [walkN] at h
  split at h
  case isFalse => cases h
  case isTrue hk =>
  obtain ⟨hk0, hk1, _⟩ := hk
  have HL := As0.mk hL
  have HR := As0.mk hr0
  have IH := As0.mk ih
  have HC0 := As0.mk hc0
  clear ih hr0 hL hc0
  obtain ⟨ad, A2, c2, A3, c3, A4, c4, A9, c9, e0, _, _, _, hx3, _, _, _, _, _, _, _, _, _, _, hl3, hi3, _⟩ := at_T68 HR.out k hk0 hk1
  cases e0
  replace hx3 := (HL.out.below.cell (World.block_lt_of_cell? w0 _ hx3)).trans hx3
  have HX := As0.mk hi3
  clear hl3 hi3
  have H := As0.mk h
  clear h
  generalize (rd_T68 l k).f3 = ids at *
  have k1 := (bkc HL.out.b1 0).trans rfl
  have hk0b : decide (0 ≤ k) = true := decide_eq_true hk0
  have hk1b : decide (k < (l.length : Int)) = true := decide_eq_true hk1
  have hen := enters_114
  replace hk0 := eq_true hk0
  replace hk1 := eq_true hk1
  go_enter Tryz.func114, Tryz.ntmps114
  go_wp2
  have HI : As0 (0 ≤ (0 : Int) ∧ (0 : Int) + (ids.length : Nat) = ids.length ∧ goL l i (walkN l i f) (ids.drop (0 : Int).toNat) seen = some r) := ⟨by omega, by omega, H.out⟩
  have hlen := As0.mk HX.out.2.1
  clear k1 hx3
  go_loopg [16] ids.length (fun kq v16 w' => ∃ (j : Int) (sn : List Bool), v16 = .int .i64 j ∧ As0 (0 ≤ j ∧ j + kq = ids.length ∧ goL l i (walkN l i f) (ids.drop j.toNat) sn = some r) ∧ As0 (LoopsW w0 w' g1 g2 g3 g4 gs (some ad) c0 cs l i sn))
  case atStart => exact ⟨0, seen, rfl, HI, HL⟩
  case round =>
   clear HI HL H
   obtain ⟨j, sn, rfl, HI, HL⟩ := hrel
   cases gk with
   | zero =>
    have hge : decide (j < (ids.length : Int)) = false := by have := HI.out; simp; omega
    have hr : r = (false, sn) := by
     have := HI.out.2.2
     rw [List.drop_eq_nil_of_le (by have := HI.out; omega)] at this
     exact (Option.some.inj this).symm
    subst hr
    go_wp2
    go_ret
    exact ⟨rfl, HL.out⟩
   | succ kq1 =>
    have h0 : 0 ≤ j := by have := HI.out; omega
    have h1 : j < (ids.length : Int) := by have := HI.out; omega
    have hge : decide (j < (ids.length : Int)) = true := decide_eq_true h1
    have hg0 : decide (0 ≤ j) = true := decide_eq_true h0
    obtain ⟨ad3, e3, hc⟩ := ReadsInt.at_ (Kd.reads_of_C (d := 0) HX.out : ReadsInt w0 .i64 A3 ids.length ids) j h0 h1
    cases e3
    replace hc := (HL.out.below.cell (World.block_lt_of_cell? w0 _ hc)).trans hc
    have hx : ids[j.toNat]? = some (rd ids j) := by
     have hl : j.toNat < ids.length := by omega
     simp [rd, List.getElem?_eq_getElem hl, List.getD_eq_getElem?_getD]
    have hst := HI.out.2.2
    rw [goL_drop l i _ ids j.toNat (rd ids j) sn hx] at hst
    clear hx
    generalize rd ids j = id at *
    have hw : As0 (wrap64 (j + 1) = j + 1 ∧ (j + 1).toNat = j.toNat + 1) := ⟨by have := HI.out; have := hlen.out; unfold wrap64; omega, by omega⟩
    replace h0 := eq_true h0
    replace h1 := eq_true h1
    have k1 := (bkc HL.out.b1 0).trans rfl
    have HF := As0.mk (item_find.calls (some ad) c0 l id (findI l id) wr (Kd.C_below HR.out HL.out.below) HC0.out rfl)
    generalize hn : findI l id = n at *
    clear hn
    by_cases hni : n = i
    ·rw [if_pos hni] at hst
     obtain rfl := Option.some.inj hst
     subst hni
     have k2 := (bkc HL.out.b2 0).trans rfl
     have k2' : ∀ W : World, Below wr.heap.size wr W → W.cell? ⟨g2, 0, none⟩ = some (.int .i64 n) := fun W hb => (bkc (bkb HL.out.b2 hb) 0).trans rfl
     have K2 := As0.mk k2'
     clear k2' hst
     have q1 : (n == n) = true := by simp
     go_wp2_with (go_at_call 55; (with_reducible refine HF.out.mono ?_); rintro e w' ⟨rfl, hb⟩; have HL2 := As0.mk (HL.out.keep hb); have k2 := (bkc HL2.out.b2 0).trans rfl; clear hb)
     go_ret
     exact ⟨rfl, HL2.out⟩
    ·rw [if_neg hni] at hst
     split at hst
     case isFalse => cases hst
     case isTrue hb =>
     have q1 : (n == i) = false := by simp [hni]
     have q1' : decide (n = i) = false := by simp [hni]
     clear hni
     obtain ⟨hb0, hb1⟩ := hb
     rw [HL.out.len] at hb1
     have NB : As0 (0 ≤ n ∧ n < (l.length : Int)) := ⟨hb0, hb1⟩
     have hb0b : decide (0 ≤ n) = true := decide_eq_true hb0
     have hb1b : decide (n < (l.length : Int)) = true := decide_eq_true hb1
     replace hb0 := eq_true hb0
     replace hb1 := eq_true hb1
     by_cases hs : rdOf false sn n = true
     ·rw [if_pos hs] at hst
      have SE := As0.mk hs
      have ST := As0.mk hst
      clear hs hst
      go_wp2_with (go_at_call 55; (with_reducible refine HF.out.mono ?_); rintro e w' ⟨rfl, hb⟩; have HL2 := As0.mk (HL.out.keep hb); have k2 := (bkc HL2.out.b2 0).trans rfl; have k3 := (bkc HL2.out.b3 0).trans rfl; obtain ⟨kc, kf⟩ := Kd.R_celln false HL2.out.row n NB.out.1 NB.out.2; simp only [SE.out] at kc; clear hb)
      go_roundg kq1
      case measure => omega
      case rel => exact ⟨j + 1, sn, congrArg _ hw.out.1, ⟨by have := HI.out; omega, by have := HI.out; omega, by rw [hw.out.2]; exact ST.out⟩, HL2⟩
     ·rw [if_neg hs] at hst
      have SE : As0 (rdOf false sn n = false) := ⟨by simpa using hs⟩
      clear hs
      obtain ⟨r1, hr1, hst⟩ := Option.bind_eq_some_iff.1 hst
      have W1 := As0.mk hr1
      have ST := As0.mk hst
      clear hr1 hst
      cases hr1b : r1.1 with
      | true =>
       have R1 := As0.mk hr1b
       clear hr1b
       go_wp2_with (first | (go_at_call 55; (with_reducible refine HF.out.mono ?_); rintro e w' ⟨rfl, hb⟩; have HL2 := As0.mk (HL.out.keep hb); have k2 := (bkc HL2.out.b2 0).trans rfl; have k3 := (bkc HL2.out.b3 0).trans rfl; obtain ⟨kc, kf⟩ := Kd.R_celln false HL2.out.row n NB.out.1 NB.out.2; simp only [SE.out] at kc; have k4 := (bkc (HL2.out.see n).b4 0).trans rfl; have HL3 := As0.mk (HL2.out.see n); clear hb) | (go_at_call 114; (with_reducible refine (IH.out n _ r1 _ g1 g2 g3 g4 gs cs HL3.out W1.out).mono ?_); rintro e w4 ⟨rfl, hL4⟩; have HL4 := As0.mk hL4; clear hL4; rw [R1.out]))
       go_ret
       have hr := ST.out
       rw [if_pos R1.out] at hr
       obtain rfl := Option.some.inj hr
       exact ⟨by rw [R1.out]; rfl, HL4.out⟩
      | false =>
       have R1 := As0.mk hr1b
       clear hr1b
       go_wp2_with (first | (go_at_call 55; (with_reducible refine HF.out.mono ?_); rintro e w' ⟨rfl, hb⟩; have HL2 := As0.mk (HL.out.keep hb); have k2 := (bkc HL2.out.b2 0).trans rfl; have k3 := (bkc HL2.out.b3 0).trans rfl; obtain ⟨kc, kf⟩ := Kd.R_celln false HL2.out.row n NB.out.1 NB.out.2; simp only [SE.out] at kc; have k4 := (bkc (HL2.out.see n).b4 0).trans rfl; have HL3 := As0.mk (HL2.out.see n); clear hb) | (go_at_call 114; (with_reducible refine (IH.out n _ r1 _ g1 g2 g3 g4 gs cs HL3.out W1.out).mono ?_); rintro e w4 ⟨rfl, hL4⟩; have HL4 := As0.mk hL4; clear hL4; rw [R1.out]))
       go_roundg kq1
       case measure => omega
       case rel =>
        have hr := ST.out
        rw [if_neg (by simp [R1.out])] at hr
        exact ⟨j + 1, r1.2, congrArg _ hw.out.1, ⟨by have := HI.out; omega, by have := HI.out; omega, by rw [hw.out.2]; exact hr⟩, HL4⟩
def item_loops.f (l0 : List S68) (a1 : Int) : Option Bool :=
 if l0.length ≤ 1000000 ∧ 0 ≤ a1 ∧ a1 < (l0.length : Int) then (walkN l0 a1 (l0.length + 1) a1 (List.replicate l0.length false)).map (·.1) else none
set_option maxHeartbeats 16000000 in
set_option maxRecDepth 100000 in
theorem item_loops.calls (A0 : Option Addr) (c0 : Nat) (l0 : List S68) (a1 : Int) (r : Bool) (w : World) (hr0 : Kd.C k68 w A0 l0.length l0) (hc0 : l0.length ≤ c0) (h : item_loops.f l0 a1 = some r) :
  Calls Tryz.prog 58 #[.slice A0 l0.length c0, .int .i64 a1] w fun e w' => e = .returned (.bool r) ∧ Below w.heap.size w w' := by
 unfold item_loops.f at h
 split at h
 case isFalse => cases h
 case isTrue hk =>
 obtain ⟨r1, hw1, rfl⟩ := Option.map_eq_some_iff.1 h
 clear h
 have HK := As0.mk hk
 have HR := As0.mk hr0
 have HC0 := As0.mk hc0
 have HW := As0.mk hw1
 clear hw1 hk hr0 hc0
 have hmf := makeFunc_run
 have hen := enters_114
 go_enter Tryz.func58, Tryz.ntmps58
 go_wp2_with (first | ((with_reducible refine gdt (N := 9) rfl ?_); refine Kd.R_make Kd.bool _ 4 rfl (N := 9) rfl 93 _ _ rfl (l0.length : Int) rfl rfl Tryz.underlying93 (.bool false) 1 info4 rfl (by decide) (by omega) false (ok := fun _ => True) (okp := fun _ => True) rfl (fun _ hk => hk) trivial (by omega) (by have := HK.out.1; omega) (Below.refl _ _) (Nat.le_refl _) ?_; intro v1 w1 hv1 hb1 _ _; simp only [Int.toNat_natCast] at hv1; obtain ⟨gs, cs, rfl, _, _, _⟩ := Kd.R_form hv1 (by have := HK.out; simp; omega); simp only [List.length_replicate] at hv1; have BB1 := bkb (bka (heap_alloc_new w (.cells #[.slice A0 l0.length c0] 35)) _) hb1; have BB2 := bkb (heap_alloc_new (w.alloc (.cells #[.slice A0 l0.length c0] 35)) (.cells #[.int .i64 a1] 3)) hb1; simp only [World.size_alloc] at BB2; have k3 : ∀ o1 o2 : Obj, ((w1.alloc o1).alloc o2).cell? ⟨w.heap.size + 1, 0, none⟩ = some (.int .i64 a1) := fun o1 o2 => (bkc (bka (bka BB2 o1) o2) 0).trans rfl; have B1 := As0.mk BB1; have B2 := As0.mk BB2; clear BB1 BB2; have HV1 := As0.mk hv1; have BT : As0 (∀ o1 o2 : Obj, Below w.heap.size w ((w1.alloc o1).alloc o2)) := ⟨fun o1 o2 => bwa (bwa (pwt (bwa (bwa (Below.refl _ _) _) _) hb1) _) _⟩; clear hv1) | (go_at_call 114; (with_reducible refine (walk_any l0 a1 w A0 c0 HR.out HC0.out _ a1 _ r1 _ _ _ _ _ gs cs ?hL HW.out).mono ?_); (case hL => exact ⟨bka (bka B1.out _) _, bka (bka B2.out _) _, bka (heap_alloc_new w1 _) _, by have := heap_alloc_new (w1.alloc (.cells #[.slice (some ⟨gs, 0, none⟩) l0.length cs] 93)) (.cells #[.func (.func 114) #[] #[.pointer (some ⟨w.heap.size, 0, none⟩), .pointer (some ⟨w.heap.size + 1, 0, none⟩), .pointer (some ⟨w1.heap.size, 0, none⟩), .pointer (some ⟨w1.heap.size + 1, 0, none⟩)]] 92); rw [World.size_alloc] at this; exact this, Kd.R_lower (Kd.R_alloc (Kd.R_alloc HV1.out _) _) (by simp [World.size_alloc]; omega), by simp, BT.out _ _⟩); rintro e w' ⟨rfl, hL⟩; have HL := As0.mk hL; clear hL))
 go_ret
 exact ⟨rfl, HL.out.below⟩
mutual
def item_unused.j0 : Nat → Bool → Int → Int → List Int → List Int → List Int → Int → Int → Int → Int → List Int → Int → Bool → Option (Bool)
 | 0, _, _, _, _, _, _, _, _, _, _, _, _, _ => none
 | k + 1, x3, x209000, x209001, x209002, x209003, x209004, x209005, x209006, x209007, x209008, x209009, x209010, x209011 => if (x209004.length : Int) = 0 then (item_unused.j1 k x3 ((x209009.length : Int) == 0) x209000 x209001 x209002 x209003 x209004 x209005 x209006 x209007 x209008 x209009 x209010 x209011) else (item_unused.j1 k x3 false x209000 x209001 x209002 x209003 x209004 x209005 x209006 x209007 x209008 x209009 x209010 x209011)
def item_unused.j1 : Nat → Bool → Bool → Int → Int → List Int → List Int → List Int → Int → Int → Int → Int → List Int → Int → Bool → Option (Bool)
 | 0, _, _, _, _, _, _, _, _, _, _, _, _, _, _ => none
 | k + 1, x3, x4, x209000, x209001, x209002, x209003, x209004, x209005, x209006, x209007, x209008, x209009, x209010, x209011 => if x209007 = 0 then (item_unused.j2 k x3 x4 (x209008 == 0) x209000 x209001 x209002 x209003 x209004 x209005 x209006 x209007 x209008 x209009 x209010 x209011) else (item_unused.j2 k x3 x4 false x209000 x209001 x209002 x209003 x209004 x209005 x209006 x209007 x209008 x209009 x209010 x209011)
def item_unused.j2 : Nat → Bool → Bool → Bool → Int → Int → List Int → List Int → List Int → Int → Int → Int → Int → List Int → Int → Bool → Option (Bool)
 | 0, _, _, _, _, _, _, _, _, _, _, _, _, _, _, _ => none
 | k + 1, x3, x4, x5, x209000, x209001, x209002, x209003, x209004, x209005, x209006, x209007, x209008, x209009, x209010, x209011 => if x209001 = 0 then (if (x209003.length : Int) = 0 then (if x3 = true then (if x4 = true then (some x5) else (some false)) else (some false)) else (some false)) else (if x209001 = 1 then (if (x209002.length : Int) = 0 then (if x3 = true then (if x4 = true then (some x5) else (some false)) else (some false)) else (some false)) else (if x209001 = 2 then (if (x209002.length : Int) = 0 then (some x3) else (some false)) else (if (x209002.length : Int) = 0 then (some x4) else (some false))))
end
def item_unused.f (k : Nat) (a0_0 : Int) (a0_1 : Int) (l0_2 : List Int) (l0_3 : List Int) (l0_4 : List Int) (a0_5 : Int) (a0_6 : Int) (a0_7 : Int) (a0_8 : Int) (l0_9 : List Int) (a0_10 : Int) (a0_11 : Bool) : Option (Bool) := if a0_5 = 0 then (item_unused.j0 k (a0_6 == 0) a0_0 a0_1 l0_2 l0_3 l0_4 a0_5 a0_6 a0_7 a0_8 l0_9 a0_10 a0_11) else (item_unused.j0 k false a0_0 a0_1 l0_2 l0_3 l0_4 a0_5 a0_6 a0_7 a0_8 l0_9 a0_10 a0_11)
set_option maxHeartbeats 8000000 in
set_option maxRecDepth 100000 in
theorem item_unused.calls (k : Nat) (a0_0 : Int) (a0_1 : Int) (A0_2 : Option Addr) (c0_2 : Nat) (l0_2 : List Int) (A0_3 : Option Addr) (c0_3 : Nat) (l0_3 : List Int) (A0_4 : Option Addr) (c0_4 : Nat) (l0_4 : List Int) (a0_5 : Int) (a0_6 : Int) (a0_7 : Int) (a0_8 : Int) (A0_9 : Option Addr) (c0_9 : Nat) (l0_9 : List Int) (a0_10 : Int) (a0_11 : Bool) (r : Bool) (w : World) (hr0_2 : Kd.C (Kd.int .u8) w A0_2 l0_2.length l0_2) (hc0_2 : l0_2.length ≤ c0_2) (hr0_3 : Kd.C (Kd.int .i64) w A0_3 l0_3.length l0_3) (hc0_3 : l0_3.length ≤ c0_3) (hr0_4 : Kd.C (Kd.int .i64) w A0_4 l0_4.length l0_4) (hc0_4 : l0_4.length ≤ c0_4) (hr0_9 : Kd.C (Kd.int .i64) w A0_9 l0_9.length l0_9) (hc0_9 : l0_9.length ≤ c0_9) (h : item_unused.f k a0_0 a0_1 l0_2 l0_3 l0_4 a0_5 a0_6 a0_7 a0_8 l0_9 a0_10 a0_11 = some r) :
  Calls Tryz.prog 54 #[.agg #[.int .i64 a0_0, .int .i64 a0_1, .slice A0_2 l0_2.length c0_2, .slice A0_3 l0_3.length c0_3, .slice A0_4 l0_4.length c0_4, .int .i64 a0_5, .int .i64 a0_6, .int .i64 a0_7, .int .i64 a0_8, .slice A0_9 l0_9.length c0_9, .int .i64 a0_10, .bool a0_11]] w fun e w' => e = .returned (.bool r) ∧ Below w.heap.size w w' := by
 have hu68 := Tryz.underlying68
 have HR0_2 := As0.mk hr0_2
 have HC0_2 := As0.mk hc0_2
 clear hr0_2 hc0_2
 have HR0_3 := As0.mk hr0_3
 have HC0_3 := As0.mk hc0_3
 clear hr0_3 hc0_3
 have HR0_4 := As0.mk hr0_4
 have HC0_4 := As0.mk hc0_4
 clear hr0_4 hc0_4
 have HR0_9 := As0.mk hr0_9
 have HC0_9 := As0.mk hc0_9
 clear hr0_9 hc0_9
 have HB := As0.mk (Below.refl w.heap.size w)
 have H : (if a0_5 = 0 then (item_unused.j0 k (a0_6 == 0) a0_0 a0_1 l0_2 l0_3 l0_4 a0_5 a0_6 a0_7 a0_8 l0_9 a0_10 a0_11) else (item_unused.j0 k false a0_0 a0_1 l0_2 l0_3 l0_4 a0_5 a0_6 a0_7 a0_8 l0_9 a0_10 a0_11)) = some r := h
 clear h
 have HC2 := As0.mk H
 clear H
 go_enter Tryz.func54, Tryz.ntmps54
 go_upto_region 1 with (first | ((with_reducible refine gdt (N := 1) rfl ?_); (try (refine gate_guard (by rfl) ?_; dsimp only)); refine bxe ?hg (N := 1) ?hd (cs := #[.int .i64 a0_0, .int .i64 a0_1, .slice A0_2 l0_2.length c0_2, .slice A0_3 l0_3.length c0_3, .slice A0_4 l0_4.length c0_4, .int .i64 a0_5, .int .i64 a0_6, .int .i64 a0_7, .int .i64 a0_8, .slice A0_9 l0_9.length c0_9, .int .i64 a0_10, .bool a0_11]) (t := 68) ?hr ?_; (case hd => rfl); (case hg => rfl); (case hr => first | (go_simp; done) | (go_simp; rfl)); intro gb208 hg w3 hbox hb; have n0_ := As0.mk (bwp (by repeat (first | (with_reducible first | exact HB.out | apply bwa | apply pwN | apply bwd) | exact HB.out)) hb); have n1_ := As0.mk (hbox); have n2_ := As0.mk ((by rw [hg]; exact (bwz (by repeat (first | (with_reducible first | exact HB.out | apply bwa | apply pwN | apply bwd) | exact HB.out))) : w.heap.size ≤ gb208)); have n3_ := As0.mk ((by rw [hg]; exact (bwz (by repeat (first | (with_reducible first | exact HB.out | apply bwa | apply pwN | apply bwd) | exact HB.out))) : w.heap.size ≤ gb208)); clear HB; have HB := n0_; have BK208 := n1_; have GW208 := n2_; have GE208 := n3_; clear n0_ n1_ n2_ n3_; clear hb hbox hg))
 (try simp only [Act.put, List.setIfInBounds_toArray, List.set_cons_zero, List.set_cons_succ])
 go_cut [3] (fun v3 wc => ∃ (kq : Nat) (x3_1 : Bool), v3 = .bool x3_1 ∧ As0 (item_unused.j0 kq x3_1 a0_0 a0_1 l0_2 l0_3 l0_4 a0_5 a0_6 a0_7 a0_8 l0_9 a0_10 a0_11 = some r) ∧ As0 (kq ≤ k) ∧ As0 (wc.heap[gb208]? = some (.cells #[.int .i64 a0_0, .int .i64 a0_1, (.slice A0_2 l0_2.length c0_2), (.slice A0_3 l0_3.length c0_3), (.slice A0_4 l0_4.length c0_4), .int .i64 a0_5, .int .i64 a0_6, .int .i64 a0_7, .int .i64 a0_8, (.slice A0_9 l0_9.length c0_9), .int .i64 a0_10, .bool a0_11] 68 (0, 0))) ∧ As0 (Below w.heap.size w wc))
 case first =>
  have H := HC2.out
  clear HC2
  by_cases c4 : a0_5 = 0
  ·rw [if_pos c4] at H
   have c4b0 : (a0_5 == 0) = true := beq_iff_eq.mpr c4
   have c4b1 : (a0_5 != 0) = false := bne_eq_false_iff_eq.mpr c4
   clear c4
   (first | rw [c4b0] | (simp only [i64_w, i32_w]; rw [c4b0]) | skip)
   have H' := As0.mk H
   clear H
   have hcz5_0 : w3.cell? ⟨gb208, 0, none⟩ = some (.int .i64 a0_0) := (bkc BK208.out 0).trans rfl
   have hcz5_1 : w3.cell? ⟨gb208, 1, none⟩ = some (.int .i64 a0_1) := (bkc BK208.out 1).trans rfl
   have hcz5_2 : w3.cell? ⟨gb208, 2, none⟩ = some (.slice A0_2 l0_2.length c0_2) := (bkc BK208.out 2).trans rfl
   have hcz5_3 : w3.cell? ⟨gb208, 3, none⟩ = some (.slice A0_3 l0_3.length c0_3) := (bkc BK208.out 3).trans rfl
   have hcz5_4 : w3.cell? ⟨gb208, 4, none⟩ = some (.slice A0_4 l0_4.length c0_4) := (bkc BK208.out 4).trans rfl
   have hcz5_5 : w3.cell? ⟨gb208, 5, none⟩ = some (.int .i64 a0_5) := (bkc BK208.out 5).trans rfl
   have hcz5_6 : w3.cell? ⟨gb208, 6, none⟩ = some (.int .i64 a0_6) := (bkc BK208.out 6).trans rfl
   have hcz5_7 : w3.cell? ⟨gb208, 7, none⟩ = some (.int .i64 a0_7) := (bkc BK208.out 7).trans rfl
   have hcz5_8 : w3.cell? ⟨gb208, 8, none⟩ = some (.int .i64 a0_8) := (bkc BK208.out 8).trans rfl
   have hcz5_9 : w3.cell? ⟨gb208, 9, none⟩ = some (.slice A0_9 l0_9.length c0_9) := (bkc BK208.out 9).trans rfl
   have hcz5_10 : w3.cell? ⟨gb208, 10, none⟩ = some (.int .i64 a0_10) := (bkc BK208.out 10).trans rfl
   have hcz5_11 : w3.cell? ⟨gb208, 11, none⟩ = some (.bool a0_11) := (bkc BK208.out 11).trans rfl
   have hfz5_0 := bkz BK208.out 0
   have hfz5_1 := bkz BK208.out 1
   have hfz5_2 := bkz BK208.out 2
   have hfz5_3 := bkz BK208.out 3
   have hfz5_4 := bkz BK208.out 4
   have hfz5_5 := bkz BK208.out 5
   have hfz5_6 := bkz BK208.out 6
   have hfz5_7 := bkz BK208.out 7
   have hfz5_8 := bkz BK208.out 8
   have hfz5_9 := bkz BK208.out 9
   have hfz5_10 := bkz BK208.out 10
   have hfz5_11 := bkz BK208.out 11
   go_wp2
   go_meet
   case rel => exact ⟨_, ((a0_6 == 0)), (by first | rfl | (simp; done) | (simp [*]; done)), H', ⟨by first | omega | exact Nat.le_refl _⟩, ⟨by (with_reducible repeat (first | refine bkN ?_ _ | refine bkd ?_ | refine bka ?_ _)); exact BK208.out⟩, ⟨by repeat (first | (with_reducible first | exact HB.out | apply bwa | apply pwN | apply bwd | refine bws ?_ GE208.out) | exact HB.out)⟩⟩
  ·rw [if_neg c4] at H
   have c4b0 : (a0_5 == 0) = false := beq_eq_false_iff_ne.mpr c4
   have c4b1 : (a0_5 != 0) = true := bne_iff_ne.mpr c4
   (first | rw [c4b0] | (simp only [i64_w, i32_w]; rw [c4b0]) | skip)
   have H' := As0.mk H
   clear H
   have hcz6_0 : w3.cell? ⟨gb208, 0, none⟩ = some (.int .i64 a0_0) := (bkc BK208.out 0).trans rfl
   have hcz6_1 : w3.cell? ⟨gb208, 1, none⟩ = some (.int .i64 a0_1) := (bkc BK208.out 1).trans rfl
   have hcz6_2 : w3.cell? ⟨gb208, 2, none⟩ = some (.slice A0_2 l0_2.length c0_2) := (bkc BK208.out 2).trans rfl
   have hcz6_3 : w3.cell? ⟨gb208, 3, none⟩ = some (.slice A0_3 l0_3.length c0_3) := (bkc BK208.out 3).trans rfl
   have hcz6_4 : w3.cell? ⟨gb208, 4, none⟩ = some (.slice A0_4 l0_4.length c0_4) := (bkc BK208.out 4).trans rfl
   have hcz6_5 : w3.cell? ⟨gb208, 5, none⟩ = some (.int .i64 a0_5) := (bkc BK208.out 5).trans rfl
   have hcz6_6 : w3.cell? ⟨gb208, 6, none⟩ = some (.int .i64 a0_6) := (bkc BK208.out 6).trans rfl
   have hcz6_7 : w3.cell? ⟨gb208, 7, none⟩ = some (.int .i64 a0_7) := (bkc BK208.out 7).trans rfl
   have hcz6_8 : w3.cell? ⟨gb208, 8, none⟩ = some (.int .i64 a0_8) := (bkc BK208.out 8).trans rfl
   have hcz6_9 : w3.cell? ⟨gb208, 9, none⟩ = some (.slice A0_9 l0_9.length c0_9) := (bkc BK208.out 9).trans rfl
   have hcz6_10 : w3.cell? ⟨gb208, 10, none⟩ = some (.int .i64 a0_10) := (bkc BK208.out 10).trans rfl
   have hcz6_11 : w3.cell? ⟨gb208, 11, none⟩ = some (.bool a0_11) := (bkc BK208.out 11).trans rfl
   have hfz6_0 := bkz BK208.out 0
   have hfz6_1 := bkz BK208.out 1
   have hfz6_2 := bkz BK208.out 2
   have hfz6_3 := bkz BK208.out 3
   have hfz6_4 := bkz BK208.out 4
   have hfz6_5 := bkz BK208.out 5
   have hfz6_6 := bkz BK208.out 6
   have hfz6_7 := bkz BK208.out 7
   have hfz6_8 := bkz BK208.out 8
   have hfz6_9 := bkz BK208.out 9
   have hfz6_10 := bkz BK208.out 10
   have hfz6_11 := bkz BK208.out 11
   go_wp2
   go_meet
   case rel => exact ⟨_, (false), (by first | rfl | (simp; done) | (simp [*]; done)), H', ⟨by first | omega | exact Nat.le_refl _⟩, ⟨by (with_reducible repeat (first | refine bkN ?_ _ | refine bkd ?_ | refine bka ?_ _)); exact BK208.out⟩, ⟨by repeat (first | (with_reducible first | exact HB.out | apply bwa | apply pwN | apply bwd | refine bws ?_ GE208.out) | exact HB.out)⟩⟩
 case rest =>
  clear HC2
  try clear p2
  try clear c4
  try clear c4b0
  try clear c4b1
  try clear c5
  try clear hcz5_0
  try clear hcz5_1
  try clear hcz5_10
  try clear hcz5_11
  try clear hcz5_2
  try clear hcz5_3
  try clear hcz5_4
  try clear hcz5_5
  try clear hcz5_6
  try clear hcz5_7
  try clear hcz5_8
  try clear hcz5_9
  try clear hcz6_0
  try clear hcz6_1
  try clear hcz6_10
  try clear hcz6_11
  try clear hcz6_2
  try clear hcz6_3
  try clear hcz6_4
  try clear hcz6_5
  try clear hcz6_6
  try clear hcz6_7
  try clear hcz6_8
  try clear hcz6_9
  try clear hfz5_0
  try clear hfz5_1
  try clear hfz5_10
  try clear hfz5_11
  try clear hfz5_2
  try clear hfz5_3
  try clear hfz5_4
  try clear hfz5_5
  try clear hfz5_6
  try clear hfz5_7
  try clear hfz5_8
  try clear hfz5_9
  try clear hfz6_0
  try clear hfz6_1
  try clear hfz6_10
  try clear hfz6_11
  try clear hfz6_2
  try clear hfz6_3
  try clear hfz6_4
  try clear hfz6_5
  try clear hfz6_6
  try clear hfz6_7
  try clear hfz6_8
  try clear hfz6_9
  obtain ⟨kq, x3_1, rfl, HA, HJ1, BK208, HB⟩ := hcut
  cases kq with
  | zero => exact absurd HA.out (by simp [item_unused.j0])
  | succ kj1 =>
   have H := HA.out
   clear HA
   simp only [item_unused.j0] at H
   have HC7 := As0.mk H
   clear H
   go_upto_region 2 with (fail)
   go_cut [4] (fun v4 wc => ∃ (kq : Nat) (x4_6 : Bool), v4 = .bool x4_6 ∧ As0 (item_unused.j1 kq x3_1 x4_6 a0_0 a0_1 l0_2 l0_3 l0_4 a0_5 a0_6 a0_7 a0_8 l0_9 a0_10 a0_11 = some r) ∧ As0 (kq ≤ kj1) ∧ As0 (wc.heap[gb208]? = some (.cells #[.int .i64 a0_0, .int .i64 a0_1, (.slice A0_2 l0_2.length c0_2), (.slice A0_3 l0_3.length c0_3), (.slice A0_4 l0_4.length c0_4), .int .i64 a0_5, .int .i64 a0_6, .int .i64 a0_7, .int .i64 a0_8, (.slice A0_9 l0_9.length c0_9), .int .i64 a0_10, .bool a0_11] 68 (0, 0))) ∧ As0 (Below w.heap.size w wc))
   case first =>
    have H := HC7.out
    clear HC7
    by_cases c8 : (l0_4.length : Int) = 0
    ·rw [if_pos c8] at H
     have c8b0 : ((l0_4.length : Int) == 0) = true := beq_iff_eq.mpr c8
     have c8b1 : ((l0_4.length : Int) != 0) = false := bne_eq_false_iff_eq.mpr c8
     clear c8
     (first | rw [c8b0] | (simp only [i64_w, i32_w]; rw [c8b0]) | skip)
     have H' := As0.mk H
     clear H
     have hcz9_0 : wc.cell? ⟨gb208, 0, none⟩ = some (.int .i64 a0_0) := (bkc BK208.out 0).trans rfl
     have hcz9_1 : wc.cell? ⟨gb208, 1, none⟩ = some (.int .i64 a0_1) := (bkc BK208.out 1).trans rfl
     have hcz9_2 : wc.cell? ⟨gb208, 2, none⟩ = some (.slice A0_2 l0_2.length c0_2) := (bkc BK208.out 2).trans rfl
     have hcz9_3 : wc.cell? ⟨gb208, 3, none⟩ = some (.slice A0_3 l0_3.length c0_3) := (bkc BK208.out 3).trans rfl
     have hcz9_4 : wc.cell? ⟨gb208, 4, none⟩ = some (.slice A0_4 l0_4.length c0_4) := (bkc BK208.out 4).trans rfl
     have hcz9_5 : wc.cell? ⟨gb208, 5, none⟩ = some (.int .i64 a0_5) := (bkc BK208.out 5).trans rfl
     have hcz9_6 : wc.cell? ⟨gb208, 6, none⟩ = some (.int .i64 a0_6) := (bkc BK208.out 6).trans rfl
     have hcz9_7 : wc.cell? ⟨gb208, 7, none⟩ = some (.int .i64 a0_7) := (bkc BK208.out 7).trans rfl
     have hcz9_8 : wc.cell? ⟨gb208, 8, none⟩ = some (.int .i64 a0_8) := (bkc BK208.out 8).trans rfl
     have hcz9_9 : wc.cell? ⟨gb208, 9, none⟩ = some (.slice A0_9 l0_9.length c0_9) := (bkc BK208.out 9).trans rfl
     have hcz9_10 : wc.cell? ⟨gb208, 10, none⟩ = some (.int .i64 a0_10) := (bkc BK208.out 10).trans rfl
     have hcz9_11 : wc.cell? ⟨gb208, 11, none⟩ = some (.bool a0_11) := (bkc BK208.out 11).trans rfl
     have hfz9_0 := bkz BK208.out 0
     have hfz9_1 := bkz BK208.out 1
     have hfz9_2 := bkz BK208.out 2
     have hfz9_3 := bkz BK208.out 3
     have hfz9_4 := bkz BK208.out 4
     have hfz9_5 := bkz BK208.out 5
     have hfz9_6 := bkz BK208.out 6
     have hfz9_7 := bkz BK208.out 7
     have hfz9_8 := bkz BK208.out 8
     have hfz9_9 := bkz BK208.out 9
     have hfz9_10 := bkz BK208.out 10
     have hfz9_11 := bkz BK208.out 11
     go_wp2
     go_meet
     case rel => exact ⟨_, (((l0_9.length : Int) == 0)), (by first | rfl | (simp; done) | (simp [*]; done)), H', ⟨by have := HJ1.out; first | omega | exact Nat.le_refl _⟩, ⟨by (with_reducible repeat (first | refine bkN ?_ _ | refine bkd ?_ | refine bka ?_ _)); exact BK208.out⟩, ⟨by repeat (first | (with_reducible first | exact HB.out | apply bwa | apply pwN | apply bwd | refine bws ?_ GE208.out) | exact HB.out)⟩⟩
    ·rw [if_neg c8] at H
     have c8b0 : ((l0_4.length : Int) == 0) = false := beq_eq_false_iff_ne.mpr c8
     have c8b1 : ((l0_4.length : Int) != 0) = true := bne_iff_ne.mpr c8
     have c8b2 : ¬ (l0_4 = []) := fun h_ => c8 (by rw [h_]; rfl)
     (first | rw [c8b0] | (simp only [i64_w, i32_w]; rw [c8b0]) | skip)
     have H' := As0.mk H
     clear H
     have hcz10_0 : wc.cell? ⟨gb208, 0, none⟩ = some (.int .i64 a0_0) := (bkc BK208.out 0).trans rfl
     have hcz10_1 : wc.cell? ⟨gb208, 1, none⟩ = some (.int .i64 a0_1) := (bkc BK208.out 1).trans rfl
     have hcz10_2 : wc.cell? ⟨gb208, 2, none⟩ = some (.slice A0_2 l0_2.length c0_2) := (bkc BK208.out 2).trans rfl
     have hcz10_3 : wc.cell? ⟨gb208, 3, none⟩ = some (.slice A0_3 l0_3.length c0_3) := (bkc BK208.out 3).trans rfl
     have hcz10_4 : wc.cell? ⟨gb208, 4, none⟩ = some (.slice A0_4 l0_4.length c0_4) := (bkc BK208.out 4).trans rfl
     have hcz10_5 : wc.cell? ⟨gb208, 5, none⟩ = some (.int .i64 a0_5) := (bkc BK208.out 5).trans rfl
     have hcz10_6 : wc.cell? ⟨gb208, 6, none⟩ = some (.int .i64 a0_6) := (bkc BK208.out 6).trans rfl
     have hcz10_7 : wc.cell? ⟨gb208, 7, none⟩ = some (.int .i64 a0_7) := (bkc BK208.out 7).trans rfl
     have hcz10_8 : wc.cell? ⟨gb208, 8, none⟩ = some (.int .i64 a0_8) := (bkc BK208.out 8).trans rfl
     have hcz10_9 : wc.cell? ⟨gb208, 9, none⟩ = some (.slice A0_9 l0_9.length c0_9) := (bkc BK208.out 9).trans rfl
     have hcz10_10 : wc.cell? ⟨gb208, 10, none⟩ = some (.int .i64 a0_10) := (bkc BK208.out 10).trans rfl
     have hcz10_11 : wc.cell? ⟨gb208, 11, none⟩ = some (.bool a0_11) := (bkc BK208.out 11).trans rfl
     have hfz10_0 := bkz BK208.out 0
     have hfz10_1 := bkz BK208.out 1
     have hfz10_2 := bkz BK208.out 2
     have hfz10_3 := bkz BK208.out 3
     have hfz10_4 := bkz BK208.out 4
     have hfz10_5 := bkz BK208.out 5
     have hfz10_6 := bkz BK208.out 6
     have hfz10_7 := bkz BK208.out 7
     have hfz10_8 := bkz BK208.out 8
     have hfz10_9 := bkz BK208.out 9
     have hfz10_10 := bkz BK208.out 10
     have hfz10_11 := bkz BK208.out 11
     go_wp2
     go_meet
     case rel => exact ⟨_, (false), (by first | rfl | (simp; done) | (simp [*]; done)), H', ⟨by have := HJ1.out; first | omega | exact Nat.le_refl _⟩, ⟨by (with_reducible repeat (first | refine bkN ?_ _ | refine bkd ?_ | refine bka ?_ _)); exact BK208.out⟩, ⟨by repeat (first | (with_reducible first | exact HB.out | apply bwa | apply pwN | apply bwd | refine bws ?_ GE208.out) | exact HB.out)⟩⟩
   case rest =>
    clear HC7
    try clear p2
    try clear c4
    try clear c4b0
    try clear c4b1
    try clear c5
    try clear c8
    try clear c8b0
    try clear c8b1
    try clear c8b2
    try clear hcz10_0
    try clear hcz10_1
    try clear hcz10_10
    try clear hcz10_11
    try clear hcz10_2
    try clear hcz10_3
    try clear hcz10_4
    try clear hcz10_5
    try clear hcz10_6
    try clear hcz10_7
    try clear hcz10_8
    try clear hcz10_9
    try clear hcz5_0
    try clear hcz5_1
    try clear hcz5_10
    try clear hcz5_11
    try clear hcz5_2
    try clear hcz5_3
    try clear hcz5_4
    try clear hcz5_5
    try clear hcz5_6
    try clear hcz5_7
    try clear hcz5_8
    try clear hcz5_9
    try clear hcz6_0
    try clear hcz6_1
    try clear hcz6_10
    try clear hcz6_11
    try clear hcz6_2
    try clear hcz6_3
    try clear hcz6_4
    try clear hcz6_5
    try clear hcz6_6
    try clear hcz6_7
    try clear hcz6_8
    try clear hcz6_9
    try clear hcz9_0
    try clear hcz9_1
    try clear hcz9_10
    try clear hcz9_11
    try clear hcz9_2
    try clear hcz9_3
    try clear hcz9_4
    try clear hcz9_5
    try clear hcz9_6
    try clear hcz9_7
    try clear hcz9_8
    try clear hcz9_9
    try clear hfz10_0
    try clear hfz10_1
    try clear hfz10_10
    try clear hfz10_11
    try clear hfz10_2
    try clear hfz10_3
    try clear hfz10_4
    try clear hfz10_5
    try clear hfz10_6
    try clear hfz10_7
    try clear hfz10_8
    try clear hfz10_9
    try clear hfz5_0
    try clear hfz5_1
    try clear hfz5_10
    try clear hfz5_11
    try clear hfz5_2
    try clear hfz5_3
    try clear hfz5_4
    try clear hfz5_5
    try clear hfz5_6
    try clear hfz5_7
    try clear hfz5_8
    try clear hfz5_9
    try clear hfz6_0
    try clear hfz6_1
    try clear hfz6_10
    try clear hfz6_11
    try clear hfz6_2
    try clear hfz6_3
    try clear hfz6_4
    try clear hfz6_5
    try clear hfz6_6
    try clear hfz6_7
    try clear hfz6_8
    try clear hfz6_9
    try clear hfz9_0
    try clear hfz9_1
    try clear hfz9_10
    try clear hfz9_11
    try clear hfz9_2
    try clear hfz9_3
    try clear hfz9_4
    try clear hfz9_5
    try clear hfz9_6
    try clear hfz9_7
    try clear hfz9_8
    try clear hfz9_9
    try clear p2
    obtain ⟨kq, x4_6, rfl, HA, HJ6, BK208, HB⟩ := hcut
    cases kq with
    | zero => exact absurd HA.out (by simp [item_unused.j1])
    | succ kj6 =>
     have H := HA.out
     clear HA
     simp only [item_unused.j1] at H
     have HC11 := As0.mk H
     clear H
     go_upto_region 3 with (fail)
     go_cut [5] (fun v5 wc => ∃ (kq : Nat) (x5_10 : Bool), v5 = .bool x5_10 ∧ As0 (item_unused.j2 kq x3_1 x4_6 x5_10 a0_0 a0_1 l0_2 l0_3 l0_4 a0_5 a0_6 a0_7 a0_8 l0_9 a0_10 a0_11 = some r) ∧ As0 (kq ≤ kj6) ∧ As0 (wc.heap[gb208]? = some (.cells #[.int .i64 a0_0, .int .i64 a0_1, (.slice A0_2 l0_2.length c0_2), (.slice A0_3 l0_3.length c0_3), (.slice A0_4 l0_4.length c0_4), .int .i64 a0_5, .int .i64 a0_6, .int .i64 a0_7, .int .i64 a0_8, (.slice A0_9 l0_9.length c0_9), .int .i64 a0_10, .bool a0_11] 68 (0, 0))) ∧ As0 (Below w.heap.size w wc))
     case first =>
      have H := HC11.out
      clear HC11
      by_cases c12 : a0_7 = 0
      ·rw [if_pos c12] at H
       have c12b0 : (a0_7 == 0) = true := beq_iff_eq.mpr c12
       have c12b1 : (a0_7 != 0) = false := bne_eq_false_iff_eq.mpr c12
       clear c12
       (first | rw [c12b0] | (simp only [i64_w, i32_w]; rw [c12b0]) | skip)
       have H' := As0.mk H
       clear H
       have hcz13_0 : wc.cell? ⟨gb208, 0, none⟩ = some (.int .i64 a0_0) := (bkc BK208.out 0).trans rfl
       have hcz13_1 : wc.cell? ⟨gb208, 1, none⟩ = some (.int .i64 a0_1) := (bkc BK208.out 1).trans rfl
       have hcz13_2 : wc.cell? ⟨gb208, 2, none⟩ = some (.slice A0_2 l0_2.length c0_2) := (bkc BK208.out 2).trans rfl
       have hcz13_3 : wc.cell? ⟨gb208, 3, none⟩ = some (.slice A0_3 l0_3.length c0_3) := (bkc BK208.out 3).trans rfl
       have hcz13_4 : wc.cell? ⟨gb208, 4, none⟩ = some (.slice A0_4 l0_4.length c0_4) := (bkc BK208.out 4).trans rfl
       have hcz13_5 : wc.cell? ⟨gb208, 5, none⟩ = some (.int .i64 a0_5) := (bkc BK208.out 5).trans rfl
       have hcz13_6 : wc.cell? ⟨gb208, 6, none⟩ = some (.int .i64 a0_6) := (bkc BK208.out 6).trans rfl
       have hcz13_7 : wc.cell? ⟨gb208, 7, none⟩ = some (.int .i64 a0_7) := (bkc BK208.out 7).trans rfl
       have hcz13_8 : wc.cell? ⟨gb208, 8, none⟩ = some (.int .i64 a0_8) := (bkc BK208.out 8).trans rfl
       have hcz13_9 : wc.cell? ⟨gb208, 9, none⟩ = some (.slice A0_9 l0_9.length c0_9) := (bkc BK208.out 9).trans rfl
       have hcz13_10 : wc.cell? ⟨gb208, 10, none⟩ = some (.int .i64 a0_10) := (bkc BK208.out 10).trans rfl
       have hcz13_11 : wc.cell? ⟨gb208, 11, none⟩ = some (.bool a0_11) := (bkc BK208.out 11).trans rfl
       have hfz13_0 := bkz BK208.out 0
       have hfz13_1 := bkz BK208.out 1
       have hfz13_2 := bkz BK208.out 2
       have hfz13_3 := bkz BK208.out 3
       have hfz13_4 := bkz BK208.out 4
       have hfz13_5 := bkz BK208.out 5
       have hfz13_6 := bkz BK208.out 6
       have hfz13_7 := bkz BK208.out 7
       have hfz13_8 := bkz BK208.out 8
       have hfz13_9 := bkz BK208.out 9
       have hfz13_10 := bkz BK208.out 10
       have hfz13_11 := bkz BK208.out 11
       go_wp2
       go_meet
       case rel => exact ⟨_, ((a0_8 == 0)), (by first | rfl | (simp; done) | (simp [*]; done)), H', ⟨by have := HJ1.out; have := HJ6.out; first | omega | exact Nat.le_refl _⟩, ⟨by (with_reducible repeat (first | refine bkN ?_ _ | refine bkd ?_ | refine bka ?_ _)); exact BK208.out⟩, ⟨by repeat (first | (with_reducible first | exact HB.out | apply bwa | apply pwN | apply bwd | refine bws ?_ GE208.out) | exact HB.out)⟩⟩
      ·rw [if_neg c12] at H
       have c12b0 : (a0_7 == 0) = false := beq_eq_false_iff_ne.mpr c12
       have c12b1 : (a0_7 != 0) = true := bne_iff_ne.mpr c12
       (first | rw [c12b0] | (simp only [i64_w, i32_w]; rw [c12b0]) | skip)
       have H' := As0.mk H
       clear H
       have hcz14_0 : wc.cell? ⟨gb208, 0, none⟩ = some (.int .i64 a0_0) := (bkc BK208.out 0).trans rfl
       have hcz14_1 : wc.cell? ⟨gb208, 1, none⟩ = some (.int .i64 a0_1) := (bkc BK208.out 1).trans rfl
       have hcz14_2 : wc.cell? ⟨gb208, 2, none⟩ = some (.slice A0_2 l0_2.length c0_2) := (bkc BK208.out 2).trans rfl
       have hcz14_3 : wc.cell? ⟨gb208, 3, none⟩ = some (.slice A0_3 l0_3.length c0_3) := (bkc BK208.out 3).trans rfl
       have hcz14_4 : wc.cell? ⟨gb208, 4, none⟩ = some (.slice A0_4 l0_4.length c0_4) := (bkc BK208.out 4).trans rfl
       have hcz14_5 : wc.cell? ⟨gb208, 5, none⟩ = some (.int .i64 a0_5) := (bkc BK208.out 5).trans rfl
       have hcz14_6 : wc.cell? ⟨gb208, 6, none⟩ = some (.int .i64 a0_6) := (bkc BK208.out 6).trans rfl
       have hcz14_7 : wc.cell? ⟨gb208, 7, none⟩ = some (.int .i64 a0_7) := (bkc BK208.out 7).trans rfl
       have hcz14_8 : wc.cell? ⟨gb208, 8, none⟩ = some (.int .i64 a0_8) := (bkc BK208.out 8).trans rfl
       have hcz14_9 : wc.cell? ⟨gb208, 9, none⟩ = some (.slice A0_9 l0_9.length c0_9) := (bkc BK208.out 9).trans rfl
       have hcz14_10 : wc.cell? ⟨gb208, 10, none⟩ = some (.int .i64 a0_10) := (bkc BK208.out 10).trans rfl
       have hcz14_11 : wc.cell? ⟨gb208, 11, none⟩ = some (.bool a0_11) := (bkc BK208.out 11).trans rfl
       have hfz14_0 := bkz BK208.out 0
       have hfz14_1 := bkz BK208.out 1
       have hfz14_2 := bkz BK208.out 2
       have hfz14_3 := bkz BK208.out 3
       have hfz14_4 := bkz BK208.out 4
       have hfz14_5 := bkz BK208.out 5
       have hfz14_6 := bkz BK208.out 6
       have hfz14_7 := bkz BK208.out 7
       have hfz14_8 := bkz BK208.out 8
       have hfz14_9 := bkz BK208.out 9
       have hfz14_10 := bkz BK208.out 10
       have hfz14_11 := bkz BK208.out 11
       go_wp2
       go_meet
       case rel => exact ⟨_, (false), (by first | rfl | (simp; done) | (simp [*]; done)), H', ⟨by have := HJ1.out; have := HJ6.out; first | omega | exact Nat.le_refl _⟩, ⟨by (with_reducible repeat (first | refine bkN ?_ _ | refine bkd ?_ | refine bka ?_ _)); exact BK208.out⟩, ⟨by repeat (first | (with_reducible first | exact HB.out | apply bwa | apply pwN | apply bwd | refine bws ?_ GE208.out) | exact HB.out)⟩⟩
     case rest =>
      clear HC11
      try clear c1
      try clear p2
      try clear c4
      try clear c4b0
      try clear c4b1
      try clear c5
      try clear c8
      try clear c8b0
      try clear c8b1
      try clear c8b2
      try clear c12
      try clear c12b0
      try clear c12b1
      try clear hcz10_0
      try clear hcz10_1
      try clear hcz10_10
      try clear hcz10_11
      try clear hcz10_2
      try clear hcz10_3
      try clear hcz10_4
      try clear hcz10_5
      try clear hcz10_6
      try clear hcz10_7
      try clear hcz10_8
      try clear hcz10_9
      try clear hcz13_0
      try clear hcz13_1
      try clear hcz13_10
      try clear hcz13_11
      try clear hcz13_2
      try clear hcz13_3
      try clear hcz13_4
      try clear hcz13_5
      try clear hcz13_6
      try clear hcz13_7
      try clear hcz13_8
      try clear hcz13_9
      try clear hcz14_0
      try clear hcz14_1
      try clear hcz14_10
      try clear hcz14_11
      try clear hcz14_2
      try clear hcz14_3
      try clear hcz14_4
      try clear hcz14_5
      try clear hcz14_6
      try clear hcz14_7
      try clear hcz14_8
      try clear hcz14_9
      try clear hcz5_0
      try clear hcz5_1
      try clear hcz5_10
      try clear hcz5_11
      try clear hcz5_2
      try clear hcz5_3
      try clear hcz5_4
      try clear hcz5_5
      try clear hcz5_6
      try clear hcz5_7
      try clear hcz5_8
      try clear hcz5_9
      try clear hcz6_0
      try clear hcz6_1
      try clear hcz6_10
      try clear hcz6_11
      try clear hcz6_2
      try clear hcz6_3
      try clear hcz6_4
      try clear hcz6_5
      try clear hcz6_6
      try clear hcz6_7
      try clear hcz6_8
      try clear hcz6_9
      try clear hcz9_0
      try clear hcz9_1
      try clear hcz9_10
      try clear hcz9_11
      try clear hcz9_2
      try clear hcz9_3
      try clear hcz9_4
      try clear hcz9_5
      try clear hcz9_6
      try clear hcz9_7
      try clear hcz9_8
      try clear hcz9_9
      try clear hfz10_0
      try clear hfz10_1
      try clear hfz10_10
      try clear hfz10_11
      try clear hfz10_2
      try clear hfz10_3
      try clear hfz10_4
      try clear hfz10_5
      try clear hfz10_6
      try clear hfz10_7
      try clear hfz10_8
      try clear hfz10_9
      try clear hfz13_0
      try clear hfz13_1
      try clear hfz13_10
      try clear hfz13_11
      try clear hfz13_2
      try clear hfz13_3
      try clear hfz13_4
      try clear hfz13_5
      try clear hfz13_6
      try clear hfz13_7
      try clear hfz13_8
      try clear hfz13_9
      try clear hfz14_0
      try clear hfz14_1
      try clear hfz14_10
      try clear hfz14_11
      try clear hfz14_2
      try clear hfz14_3
      try clear hfz14_4
      try clear hfz14_5
      try clear hfz14_6
      try clear hfz14_7
      try clear hfz14_8
      try clear hfz14_9
      try clear hfz5_0
      try clear hfz5_1
      try clear hfz5_10
      try clear hfz5_11
      try clear hfz5_2
      try clear hfz5_3
      try clear hfz5_4
      try clear hfz5_5
      try clear hfz5_6
      try clear hfz5_7
      try clear hfz5_8
      try clear hfz5_9
      try clear hfz6_0
      try clear hfz6_1
      try clear hfz6_10
      try clear hfz6_11
      try clear hfz6_2
      try clear hfz6_3
      try clear hfz6_4
      try clear hfz6_5
      try clear hfz6_6
      try clear hfz6_7
      try clear hfz6_8
      try clear hfz6_9
      try clear hfz9_0
      try clear hfz9_1
      try clear hfz9_10
      try clear hfz9_11
      try clear hfz9_2
      try clear hfz9_3
      try clear hfz9_4
      try clear hfz9_5
      try clear hfz9_6
      try clear hfz9_7
      try clear hfz9_8
      try clear hfz9_9
      try clear p2
      obtain ⟨kq, x5_10, rfl, HA, HJ10, BK208, HB⟩ := hcut
      cases kq with
      | zero => exact absurd HA.out (by simp [item_unused.j2])
      | succ kj10 =>
       have H := HA.out
       clear HA
       simp only [item_unused.j2] at H
       by_cases c15 : a0_1 = 0
       ·rw [if_pos c15] at H
        have c15b0 : (a0_1 == 0) = true := beq_iff_eq.mpr c15
        have c15b1 : (a0_1 != 0) = false := bne_eq_false_iff_eq.mpr c15
        clear c15
        by_cases c16 : (l0_3.length : Int) = 0
        ·rw [if_pos c16] at H
         have c16b0 : ((l0_3.length : Int) == 0) = true := beq_iff_eq.mpr c16
         have c16b1 : ((l0_3.length : Int) != 0) = false := bne_eq_false_iff_eq.mpr c16
         clear c16
         by_cases c17 : x3_1 = true
         ·subst c17
          have H1 : (if x4_6 = true then (some x5_10) else (some false)) = some r := by rw [if_pos rfl] at H; exact H
          clear H
          have H := H1
          clear H1
          by_cases c18 : x4_6 = true
          ·subst c18
           have H1 : (some x5_10) = some r := by rw [if_pos rfl] at H; exact H
           clear H
           have H := H1
           clear H1
           obtain rfl := Option.some.inj H
           have hcz19_0 : wc.cell? ⟨gb208, 0, none⟩ = some (.int .i64 a0_0) := (bkc BK208.out 0).trans rfl
           have hcz19_1 : wc.cell? ⟨gb208, 1, none⟩ = some (.int .i64 a0_1) := (bkc BK208.out 1).trans rfl
           have hcz19_2 : wc.cell? ⟨gb208, 2, none⟩ = some (.slice A0_2 l0_2.length c0_2) := (bkc BK208.out 2).trans rfl
           have hcz19_3 : wc.cell? ⟨gb208, 3, none⟩ = some (.slice A0_3 l0_3.length c0_3) := (bkc BK208.out 3).trans rfl
           have hcz19_4 : wc.cell? ⟨gb208, 4, none⟩ = some (.slice A0_4 l0_4.length c0_4) := (bkc BK208.out 4).trans rfl
           have hcz19_5 : wc.cell? ⟨gb208, 5, none⟩ = some (.int .i64 a0_5) := (bkc BK208.out 5).trans rfl
           have hcz19_6 : wc.cell? ⟨gb208, 6, none⟩ = some (.int .i64 a0_6) := (bkc BK208.out 6).trans rfl
           have hcz19_7 : wc.cell? ⟨gb208, 7, none⟩ = some (.int .i64 a0_7) := (bkc BK208.out 7).trans rfl
           have hcz19_8 : wc.cell? ⟨gb208, 8, none⟩ = some (.int .i64 a0_8) := (bkc BK208.out 8).trans rfl
           have hcz19_9 : wc.cell? ⟨gb208, 9, none⟩ = some (.slice A0_9 l0_9.length c0_9) := (bkc BK208.out 9).trans rfl
           have hcz19_10 : wc.cell? ⟨gb208, 10, none⟩ = some (.int .i64 a0_10) := (bkc BK208.out 10).trans rfl
           have hcz19_11 : wc.cell? ⟨gb208, 11, none⟩ = some (.bool a0_11) := (bkc BK208.out 11).trans rfl
           have hfz19_0 := bkz BK208.out 0
           have hfz19_1 := bkz BK208.out 1
           have hfz19_2 := bkz BK208.out 2
           have hfz19_3 := bkz BK208.out 3
           have hfz19_4 := bkz BK208.out 4
           have hfz19_5 := bkz BK208.out 5
           have hfz19_6 := bkz BK208.out 6
           have hfz19_7 := bkz BK208.out 7
           have hfz19_8 := bkz BK208.out 8
           have hfz19_9 := bkz BK208.out 9
           have hfz19_10 := bkz BK208.out 10
           have hfz19_11 := bkz BK208.out 11
           go_wp2
           go_ret
           exact ⟨by first | rfl | (simp [errW_none, errW_some] <;> rfl) | (simp [*, errW_none, errW_some] <;> rfl), by repeat (first | (with_reducible first | exact HB.out | apply bwa | apply pwN | apply bwd | refine bws ?_ GE208.out) | exact HB.out)⟩
          ·replace c18 := Bool.eq_false_iff.mpr c18
           subst c18
           have H1 : (some false) = some r := by rw [if_neg (show ¬ (false = true) by decide)] at H; exact H
           clear H
           have H := H1
           clear H1
           obtain rfl := Option.some.inj H
           have hcz20_0 : wc.cell? ⟨gb208, 0, none⟩ = some (.int .i64 a0_0) := (bkc BK208.out 0).trans rfl
           have hcz20_1 : wc.cell? ⟨gb208, 1, none⟩ = some (.int .i64 a0_1) := (bkc BK208.out 1).trans rfl
           have hcz20_2 : wc.cell? ⟨gb208, 2, none⟩ = some (.slice A0_2 l0_2.length c0_2) := (bkc BK208.out 2).trans rfl
           have hcz20_3 : wc.cell? ⟨gb208, 3, none⟩ = some (.slice A0_3 l0_3.length c0_3) := (bkc BK208.out 3).trans rfl
           have hcz20_4 : wc.cell? ⟨gb208, 4, none⟩ = some (.slice A0_4 l0_4.length c0_4) := (bkc BK208.out 4).trans rfl
           have hcz20_5 : wc.cell? ⟨gb208, 5, none⟩ = some (.int .i64 a0_5) := (bkc BK208.out 5).trans rfl
           have hcz20_6 : wc.cell? ⟨gb208, 6, none⟩ = some (.int .i64 a0_6) := (bkc BK208.out 6).trans rfl
           have hcz20_7 : wc.cell? ⟨gb208, 7, none⟩ = some (.int .i64 a0_7) := (bkc BK208.out 7).trans rfl
           have hcz20_8 : wc.cell? ⟨gb208, 8, none⟩ = some (.int .i64 a0_8) := (bkc BK208.out 8).trans rfl
           have hcz20_9 : wc.cell? ⟨gb208, 9, none⟩ = some (.slice A0_9 l0_9.length c0_9) := (bkc BK208.out 9).trans rfl
           have hcz20_10 : wc.cell? ⟨gb208, 10, none⟩ = some (.int .i64 a0_10) := (bkc BK208.out 10).trans rfl
           have hcz20_11 : wc.cell? ⟨gb208, 11, none⟩ = some (.bool a0_11) := (bkc BK208.out 11).trans rfl
           have hfz20_0 := bkz BK208.out 0
           have hfz20_1 := bkz BK208.out 1
           have hfz20_2 := bkz BK208.out 2
           have hfz20_3 := bkz BK208.out 3
           have hfz20_4 := bkz BK208.out 4
           have hfz20_5 := bkz BK208.out 5
           have hfz20_6 := bkz BK208.out 6
           have hfz20_7 := bkz BK208.out 7
           have hfz20_8 := bkz BK208.out 8
           have hfz20_9 := bkz BK208.out 9
           have hfz20_10 := bkz BK208.out 10
           have hfz20_11 := bkz BK208.out 11
           go_wp2
           go_ret
           exact ⟨by first | rfl | (simp [errW_none, errW_some] <;> rfl) | (simp [*, errW_none, errW_some] <;> rfl), by repeat (first | (with_reducible first | exact HB.out | apply bwa | apply pwN | apply bwd | refine bws ?_ GE208.out) | exact HB.out)⟩
         ·replace c17 := Bool.eq_false_iff.mpr c17
          subst c17
          have H1 : (some false) = some r := by rw [if_neg (show ¬ (false = true) by decide)] at H; exact H
          clear H
          have H := H1
          clear H1
          obtain rfl := Option.some.inj H
          have hcz21_0 : wc.cell? ⟨gb208, 0, none⟩ = some (.int .i64 a0_0) := (bkc BK208.out 0).trans rfl
          have hcz21_1 : wc.cell? ⟨gb208, 1, none⟩ = some (.int .i64 a0_1) := (bkc BK208.out 1).trans rfl
          have hcz21_2 : wc.cell? ⟨gb208, 2, none⟩ = some (.slice A0_2 l0_2.length c0_2) := (bkc BK208.out 2).trans rfl
          have hcz21_3 : wc.cell? ⟨gb208, 3, none⟩ = some (.slice A0_3 l0_3.length c0_3) := (bkc BK208.out 3).trans rfl
          have hcz21_4 : wc.cell? ⟨gb208, 4, none⟩ = some (.slice A0_4 l0_4.length c0_4) := (bkc BK208.out 4).trans rfl
          have hcz21_5 : wc.cell? ⟨gb208, 5, none⟩ = some (.int .i64 a0_5) := (bkc BK208.out 5).trans rfl
          have hcz21_6 : wc.cell? ⟨gb208, 6, none⟩ = some (.int .i64 a0_6) := (bkc BK208.out 6).trans rfl
          have hcz21_7 : wc.cell? ⟨gb208, 7, none⟩ = some (.int .i64 a0_7) := (bkc BK208.out 7).trans rfl
          have hcz21_8 : wc.cell? ⟨gb208, 8, none⟩ = some (.int .i64 a0_8) := (bkc BK208.out 8).trans rfl
          have hcz21_9 : wc.cell? ⟨gb208, 9, none⟩ = some (.slice A0_9 l0_9.length c0_9) := (bkc BK208.out 9).trans rfl
          have hcz21_10 : wc.cell? ⟨gb208, 10, none⟩ = some (.int .i64 a0_10) := (bkc BK208.out 10).trans rfl
          have hcz21_11 : wc.cell? ⟨gb208, 11, none⟩ = some (.bool a0_11) := (bkc BK208.out 11).trans rfl
          have hfz21_0 := bkz BK208.out 0
          have hfz21_1 := bkz BK208.out 1
          have hfz21_2 := bkz BK208.out 2
          have hfz21_3 := bkz BK208.out 3
          have hfz21_4 := bkz BK208.out 4
          have hfz21_5 := bkz BK208.out 5
          have hfz21_6 := bkz BK208.out 6
          have hfz21_7 := bkz BK208.out 7
          have hfz21_8 := bkz BK208.out 8
          have hfz21_9 := bkz BK208.out 9
          have hfz21_10 := bkz BK208.out 10
          have hfz21_11 := bkz BK208.out 11
          go_wp2
          go_ret
          exact ⟨by first | rfl | (simp [errW_none, errW_some] <;> rfl) | (simp [*, errW_none, errW_some] <;> rfl), by repeat (first | (with_reducible first | exact HB.out | apply bwa | apply pwN | apply bwd | refine bws ?_ GE208.out) | exact HB.out)⟩
        ·rw [if_neg c16] at H
         have c16b0 : ((l0_3.length : Int) == 0) = false := beq_eq_false_iff_ne.mpr c16
         have c16b1 : ((l0_3.length : Int) != 0) = true := bne_iff_ne.mpr c16
         have c16b2 : ¬ (l0_3 = []) := fun h_ => c16 (by rw [h_]; rfl)
         obtain rfl := Option.some.inj H
         have hcz22_0 : wc.cell? ⟨gb208, 0, none⟩ = some (.int .i64 a0_0) := (bkc BK208.out 0).trans rfl
         have hcz22_1 : wc.cell? ⟨gb208, 1, none⟩ = some (.int .i64 a0_1) := (bkc BK208.out 1).trans rfl
         have hcz22_2 : wc.cell? ⟨gb208, 2, none⟩ = some (.slice A0_2 l0_2.length c0_2) := (bkc BK208.out 2).trans rfl
         have hcz22_3 : wc.cell? ⟨gb208, 3, none⟩ = some (.slice A0_3 l0_3.length c0_3) := (bkc BK208.out 3).trans rfl
         have hcz22_4 : wc.cell? ⟨gb208, 4, none⟩ = some (.slice A0_4 l0_4.length c0_4) := (bkc BK208.out 4).trans rfl
         have hcz22_5 : wc.cell? ⟨gb208, 5, none⟩ = some (.int .i64 a0_5) := (bkc BK208.out 5).trans rfl
         have hcz22_6 : wc.cell? ⟨gb208, 6, none⟩ = some (.int .i64 a0_6) := (bkc BK208.out 6).trans rfl
         have hcz22_7 : wc.cell? ⟨gb208, 7, none⟩ = some (.int .i64 a0_7) := (bkc BK208.out 7).trans rfl
         have hcz22_8 : wc.cell? ⟨gb208, 8, none⟩ = some (.int .i64 a0_8) := (bkc BK208.out 8).trans rfl
         have hcz22_9 : wc.cell? ⟨gb208, 9, none⟩ = some (.slice A0_9 l0_9.length c0_9) := (bkc BK208.out 9).trans rfl
         have hcz22_10 : wc.cell? ⟨gb208, 10, none⟩ = some (.int .i64 a0_10) := (bkc BK208.out 10).trans rfl
         have hcz22_11 : wc.cell? ⟨gb208, 11, none⟩ = some (.bool a0_11) := (bkc BK208.out 11).trans rfl
         have hfz22_0 := bkz BK208.out 0
         have hfz22_1 := bkz BK208.out 1
         have hfz22_2 := bkz BK208.out 2
         have hfz22_3 := bkz BK208.out 3
         have hfz22_4 := bkz BK208.out 4
         have hfz22_5 := bkz BK208.out 5
         have hfz22_6 := bkz BK208.out 6
         have hfz22_7 := bkz BK208.out 7
         have hfz22_8 := bkz BK208.out 8
         have hfz22_9 := bkz BK208.out 9
         have hfz22_10 := bkz BK208.out 10
         have hfz22_11 := bkz BK208.out 11
         go_wp2
         go_ret
         exact ⟨by first | rfl | (simp [errW_none, errW_some] <;> rfl) | (simp [*, errW_none, errW_some] <;> rfl), by repeat (first | (with_reducible first | exact HB.out | apply bwa | apply pwN | apply bwd | refine bws ?_ GE208.out) | exact HB.out)⟩
       ·rw [if_neg c15] at H
        have c15b0 : (a0_1 == 0) = false := beq_eq_false_iff_ne.mpr c15
        have c15b1 : (a0_1 != 0) = true := bne_iff_ne.mpr c15
        by_cases c23 : a0_1 = 1
        ·rw [if_pos c23] at H
         have c23b0 : (a0_1 == 1) = true := beq_iff_eq.mpr c23
         have c23b1 : (a0_1 != 1) = false := bne_eq_false_iff_eq.mpr c23
         clear c23
         by_cases c24 : (l0_2.length : Int) = 0
         ·rw [if_pos c24] at H
          have c24b0 : ((l0_2.length : Int) == 0) = true := beq_iff_eq.mpr c24
          have c24b1 : ((l0_2.length : Int) != 0) = false := bne_eq_false_iff_eq.mpr c24
          clear c24
          by_cases c25 : x3_1 = true
          ·subst c25
           have H1 : (if x4_6 = true then (some x5_10) else (some false)) = some r := by rw [if_pos rfl] at H; exact H
           clear H
           have H := H1
           clear H1
           by_cases c26 : x4_6 = true
           ·subst c26
            have H1 : (some x5_10) = some r := by rw [if_pos rfl] at H; exact H
            clear H
            have H := H1
            clear H1
            obtain rfl := Option.some.inj H
            have hcz27_0 : wc.cell? ⟨gb208, 0, none⟩ = some (.int .i64 a0_0) := (bkc BK208.out 0).trans rfl
            have hcz27_1 : wc.cell? ⟨gb208, 1, none⟩ = some (.int .i64 a0_1) := (bkc BK208.out 1).trans rfl
            have hcz27_2 : wc.cell? ⟨gb208, 2, none⟩ = some (.slice A0_2 l0_2.length c0_2) := (bkc BK208.out 2).trans rfl
            have hcz27_3 : wc.cell? ⟨gb208, 3, none⟩ = some (.slice A0_3 l0_3.length c0_3) := (bkc BK208.out 3).trans rfl
            have hcz27_4 : wc.cell? ⟨gb208, 4, none⟩ = some (.slice A0_4 l0_4.length c0_4) := (bkc BK208.out 4).trans rfl
            have hcz27_5 : wc.cell? ⟨gb208, 5, none⟩ = some (.int .i64 a0_5) := (bkc BK208.out 5).trans rfl
            have hcz27_6 : wc.cell? ⟨gb208, 6, none⟩ = some (.int .i64 a0_6) := (bkc BK208.out 6).trans rfl
            have hcz27_7 : wc.cell? ⟨gb208, 7, none⟩ = some (.int .i64 a0_7) := (bkc BK208.out 7).trans rfl
            have hcz27_8 : wc.cell? ⟨gb208, 8, none⟩ = some (.int .i64 a0_8) := (bkc BK208.out 8).trans rfl
            have hcz27_9 : wc.cell? ⟨gb208, 9, none⟩ = some (.slice A0_9 l0_9.length c0_9) := (bkc BK208.out 9).trans rfl
            have hcz27_10 : wc.cell? ⟨gb208, 10, none⟩ = some (.int .i64 a0_10) := (bkc BK208.out 10).trans rfl
            have hcz27_11 : wc.cell? ⟨gb208, 11, none⟩ = some (.bool a0_11) := (bkc BK208.out 11).trans rfl
            have hfz27_0 := bkz BK208.out 0
            have hfz27_1 := bkz BK208.out 1
            have hfz27_2 := bkz BK208.out 2
            have hfz27_3 := bkz BK208.out 3
            have hfz27_4 := bkz BK208.out 4
            have hfz27_5 := bkz BK208.out 5
            have hfz27_6 := bkz BK208.out 6
            have hfz27_7 := bkz BK208.out 7
            have hfz27_8 := bkz BK208.out 8
            have hfz27_9 := bkz BK208.out 9
            have hfz27_10 := bkz BK208.out 10
            have hfz27_11 := bkz BK208.out 11
            go_wp2
            go_ret
            exact ⟨by first | rfl | (simp [errW_none, errW_some] <;> rfl) | (simp [*, errW_none, errW_some] <;> rfl), by repeat (first | (with_reducible first | exact HB.out | apply bwa | apply pwN | apply bwd | refine bws ?_ GE208.out) | exact HB.out)⟩
           ·replace c26 := Bool.eq_false_iff.mpr c26
            subst c26
            have H1 : (some false) = some r := by rw [if_neg (show ¬ (false = true) by decide)] at H; exact H
            clear H
            have H := H1
            clear H1
            obtain rfl := Option.some.inj H
            have hcz28_0 : wc.cell? ⟨gb208, 0, none⟩ = some (.int .i64 a0_0) := (bkc BK208.out 0).trans rfl
            have hcz28_1 : wc.cell? ⟨gb208, 1, none⟩ = some (.int .i64 a0_1) := (bkc BK208.out 1).trans rfl
            have hcz28_2 : wc.cell? ⟨gb208, 2, none⟩ = some (.slice A0_2 l0_2.length c0_2) := (bkc BK208.out 2).trans rfl
            have hcz28_3 : wc.cell? ⟨gb208, 3, none⟩ = some (.slice A0_3 l0_3.length c0_3) := (bkc BK208.out 3).trans rfl
            have hcz28_4 : wc.cell? ⟨gb208, 4, none⟩ = some (.slice A0_4 l0_4.length c0_4) := (bkc BK208.out 4).trans rfl
            have hcz28_5 : wc.cell? ⟨gb208, 5, none⟩ = some (.int .i64 a0_5) := (bkc BK208.out 5).trans rfl
            have hcz28_6 : wc.cell? ⟨gb208, 6, none⟩ = some (.int .i64 a0_6) := (bkc BK208.out 6).trans rfl
            have hcz28_7 : wc.cell? ⟨gb208, 7, none⟩ = some (.int .i64 a0_7) := (bkc BK208.out 7).trans rfl
            have hcz28_8 : wc.cell? ⟨gb208, 8, none⟩ = some (.int .i64 a0_8) := (bkc BK208.out 8).trans rfl
            have hcz28_9 : wc.cell? ⟨gb208, 9, none⟩ = some (.slice A0_9 l0_9.length c0_9) := (bkc BK208.out 9).trans rfl
            have hcz28_10 : wc.cell? ⟨gb208, 10, none⟩ = some (.int .i64 a0_10) := (bkc BK208.out 10).trans rfl
            have hcz28_11 : wc.cell? ⟨gb208, 11, none⟩ = some (.bool a0_11) := (bkc BK208.out 11).trans rfl
            have hfz28_0 := bkz BK208.out 0
            have hfz28_1 := bkz BK208.out 1
            have hfz28_2 := bkz BK208.out 2
            have hfz28_3 := bkz BK208.out 3
            have hfz28_4 := bkz BK208.out 4
            have hfz28_5 := bkz BK208.out 5
            have hfz28_6 := bkz BK208.out 6
            have hfz28_7 := bkz BK208.out 7
            have hfz28_8 := bkz BK208.out 8
            have hfz28_9 := bkz BK208.out 9
            have hfz28_10 := bkz BK208.out 10
            have hfz28_11 := bkz BK208.out 11
            go_wp2
            go_ret
            exact ⟨by first | rfl | (simp [errW_none, errW_some] <;> rfl) | (simp [*, errW_none, errW_some] <;> rfl), by repeat (first | (with_reducible first | exact HB.out | apply bwa | apply pwN | apply bwd | refine bws ?_ GE208.out) | exact HB.out)⟩
          ·replace c25 := Bool.eq_false_iff.mpr c25
           subst c25
           have H1 : (some false) = some r := by rw [if_neg (show ¬ (false = true) by decide)] at H; exact H
           clear H
           have H := H1
           clear H1
           obtain rfl := Option.some.inj H
           have hcz29_0 : wc.cell? ⟨gb208, 0, none⟩ = some (.int .i64 a0_0) := (bkc BK208.out 0).trans rfl
           have hcz29_1 : wc.cell? ⟨gb208, 1, none⟩ = some (.int .i64 a0_1) := (bkc BK208.out 1).trans rfl
           have hcz29_2 : wc.cell? ⟨gb208, 2, none⟩ = some (.slice A0_2 l0_2.length c0_2) := (bkc BK208.out 2).trans rfl
           have hcz29_3 : wc.cell? ⟨gb208, 3, none⟩ = some (.slice A0_3 l0_3.length c0_3) := (bkc BK208.out 3).trans rfl
           have hcz29_4 : wc.cell? ⟨gb208, 4, none⟩ = some (.slice A0_4 l0_4.length c0_4) := (bkc BK208.out 4).trans rfl
           have hcz29_5 : wc.cell? ⟨gb208, 5, none⟩ = some (.int .i64 a0_5) := (bkc BK208.out 5).trans rfl
           have hcz29_6 : wc.cell? ⟨gb208, 6, none⟩ = some (.int .i64 a0_6) := (bkc BK208.out 6).trans rfl
           have hcz29_7 : wc.cell? ⟨gb208, 7, none⟩ = some (.int .i64 a0_7) := (bkc BK208.out 7).trans rfl
           have hcz29_8 : wc.cell? ⟨gb208, 8, none⟩ = some (.int .i64 a0_8) := (bkc BK208.out 8).trans rfl
           have hcz29_9 : wc.cell? ⟨gb208, 9, none⟩ = some (.slice A0_9 l0_9.length c0_9) := (bkc BK208.out 9).trans rfl
           have hcz29_10 : wc.cell? ⟨gb208, 10, none⟩ = some (.int .i64 a0_10) := (bkc BK208.out 10).trans rfl
           have hcz29_11 : wc.cell? ⟨gb208, 11, none⟩ = some (.bool a0_11) := (bkc BK208.out 11).trans rfl
           have hfz29_0 := bkz BK208.out 0
           have hfz29_1 := bkz BK208.out 1
           have hfz29_2 := bkz BK208.out 2
           have hfz29_3 := bkz BK208.out 3
           have hfz29_4 := bkz BK208.out 4
           have hfz29_5 := bkz BK208.out 5
           have hfz29_6 := bkz BK208.out 6
           have hfz29_7 := bkz BK208.out 7
           have hfz29_8 := bkz BK208.out 8
           have hfz29_9 := bkz BK208.out 9
           have hfz29_10 := bkz BK208.out 10
           have hfz29_11 := bkz BK208.out 11
           go_wp2
           go_ret
           exact ⟨by first | rfl | (simp [errW_none, errW_some] <;> rfl) | (simp [*, errW_none, errW_some] <;> rfl), by repeat (first | (with_reducible first | exact HB.out | apply bwa | apply pwN | apply bwd | refine bws ?_ GE208.out) | exact HB.out)⟩
         ·rw [if_neg c24] at H
          have c24b0 : ((l0_2.length : Int) == 0) = false := beq_eq_false_iff_ne.mpr c24
          have c24b1 : ((l0_2.length : Int) != 0) = true := bne_iff_ne.mpr c24
          have c24b2 : ¬ (l0_2 = []) := fun h_ => c24 (by rw [h_]; rfl)
          obtain rfl := Option.some.inj H
          have hcz30_0 : wc.cell? ⟨gb208, 0, none⟩ = some (.int .i64 a0_0) := (bkc BK208.out 0).trans rfl
          have hcz30_1 : wc.cell? ⟨gb208, 1, none⟩ = some (.int .i64 a0_1) := (bkc BK208.out 1).trans rfl
          have hcz30_2 : wc.cell? ⟨gb208, 2, none⟩ = some (.slice A0_2 l0_2.length c0_2) := (bkc BK208.out 2).trans rfl
          have hcz30_3 : wc.cell? ⟨gb208, 3, none⟩ = some (.slice A0_3 l0_3.length c0_3) := (bkc BK208.out 3).trans rfl
          have hcz30_4 : wc.cell? ⟨gb208, 4, none⟩ = some (.slice A0_4 l0_4.length c0_4) := (bkc BK208.out 4).trans rfl
          have hcz30_5 : wc.cell? ⟨gb208, 5, none⟩ = some (.int .i64 a0_5) := (bkc BK208.out 5).trans rfl
          have hcz30_6 : wc.cell? ⟨gb208, 6, none⟩ = some (.int .i64 a0_6) := (bkc BK208.out 6).trans rfl
          have hcz30_7 : wc.cell? ⟨gb208, 7, none⟩ = some (.int .i64 a0_7) := (bkc BK208.out 7).trans rfl
          have hcz30_8 : wc.cell? ⟨gb208, 8, none⟩ = some (.int .i64 a0_8) := (bkc BK208.out 8).trans rfl
          have hcz30_9 : wc.cell? ⟨gb208, 9, none⟩ = some (.slice A0_9 l0_9.length c0_9) := (bkc BK208.out 9).trans rfl
          have hcz30_10 : wc.cell? ⟨gb208, 10, none⟩ = some (.int .i64 a0_10) := (bkc BK208.out 10).trans rfl
          have hcz30_11 : wc.cell? ⟨gb208, 11, none⟩ = some (.bool a0_11) := (bkc BK208.out 11).trans rfl
          have hfz30_0 := bkz BK208.out 0
          have hfz30_1 := bkz BK208.out 1
          have hfz30_2 := bkz BK208.out 2
          have hfz30_3 := bkz BK208.out 3
          have hfz30_4 := bkz BK208.out 4
          have hfz30_5 := bkz BK208.out 5
          have hfz30_6 := bkz BK208.out 6
          have hfz30_7 := bkz BK208.out 7
          have hfz30_8 := bkz BK208.out 8
          have hfz30_9 := bkz BK208.out 9
          have hfz30_10 := bkz BK208.out 10
          have hfz30_11 := bkz BK208.out 11
          go_wp2
          go_ret
          exact ⟨by first | rfl | (simp [errW_none, errW_some] <;> rfl) | (simp [*, errW_none, errW_some] <;> rfl), by repeat (first | (with_reducible first | exact HB.out | apply bwa | apply pwN | apply bwd | refine bws ?_ GE208.out) | exact HB.out)⟩
        ·rw [if_neg c23] at H
         have c23b0 : (a0_1 == 1) = false := beq_eq_false_iff_ne.mpr c23
         have c23b1 : (a0_1 != 1) = true := bne_iff_ne.mpr c23
         by_cases c31 : a0_1 = 2
         ·rw [if_pos c31] at H
          have c31b0 : (a0_1 == 2) = true := beq_iff_eq.mpr c31
          have c31b1 : (a0_1 != 2) = false := bne_eq_false_iff_eq.mpr c31
          clear c31
          by_cases c32 : (l0_2.length : Int) = 0
          ·rw [if_pos c32] at H
           have c32b0 : ((l0_2.length : Int) == 0) = true := beq_iff_eq.mpr c32
           have c32b1 : ((l0_2.length : Int) != 0) = false := bne_eq_false_iff_eq.mpr c32
           clear c32
           obtain rfl := Option.some.inj H
           have hcz33_0 : wc.cell? ⟨gb208, 0, none⟩ = some (.int .i64 a0_0) := (bkc BK208.out 0).trans rfl
           have hcz33_1 : wc.cell? ⟨gb208, 1, none⟩ = some (.int .i64 a0_1) := (bkc BK208.out 1).trans rfl
           have hcz33_2 : wc.cell? ⟨gb208, 2, none⟩ = some (.slice A0_2 l0_2.length c0_2) := (bkc BK208.out 2).trans rfl
           have hcz33_3 : wc.cell? ⟨gb208, 3, none⟩ = some (.slice A0_3 l0_3.length c0_3) := (bkc BK208.out 3).trans rfl
           have hcz33_4 : wc.cell? ⟨gb208, 4, none⟩ = some (.slice A0_4 l0_4.length c0_4) := (bkc BK208.out 4).trans rfl
           have hcz33_5 : wc.cell? ⟨gb208, 5, none⟩ = some (.int .i64 a0_5) := (bkc BK208.out 5).trans rfl
           have hcz33_6 : wc.cell? ⟨gb208, 6, none⟩ = some (.int .i64 a0_6) := (bkc BK208.out 6).trans rfl
           have hcz33_7 : wc.cell? ⟨gb208, 7, none⟩ = some (.int .i64 a0_7) := (bkc BK208.out 7).trans rfl
           have hcz33_8 : wc.cell? ⟨gb208, 8, none⟩ = some (.int .i64 a0_8) := (bkc BK208.out 8).trans rfl
           have hcz33_9 : wc.cell? ⟨gb208, 9, none⟩ = some (.slice A0_9 l0_9.length c0_9) := (bkc BK208.out 9).trans rfl
           have hcz33_10 : wc.cell? ⟨gb208, 10, none⟩ = some (.int .i64 a0_10) := (bkc BK208.out 10).trans rfl
           have hcz33_11 : wc.cell? ⟨gb208, 11, none⟩ = some (.bool a0_11) := (bkc BK208.out 11).trans rfl
           have hfz33_0 := bkz BK208.out 0
           have hfz33_1 := bkz BK208.out 1
           have hfz33_2 := bkz BK208.out 2
           have hfz33_3 := bkz BK208.out 3
           have hfz33_4 := bkz BK208.out 4
           have hfz33_5 := bkz BK208.out 5
           have hfz33_6 := bkz BK208.out 6
           have hfz33_7 := bkz BK208.out 7
           have hfz33_8 := bkz BK208.out 8
           have hfz33_9 := bkz BK208.out 9
           have hfz33_10 := bkz BK208.out 10
           have hfz33_11 := bkz BK208.out 11
           go_wp2
           go_ret
           exact ⟨by first | rfl | (simp [errW_none, errW_some] <;> rfl) | (simp [*, errW_none, errW_some] <;> rfl), by repeat (first | (with_reducible first | exact HB.out | apply bwa | apply pwN | apply bwd | refine bws ?_ GE208.out) | exact HB.out)⟩
          ·rw [if_neg c32] at H
           have c32b0 : ((l0_2.length : Int) == 0) = false := beq_eq_false_iff_ne.mpr c32
           have c32b1 : ((l0_2.length : Int) != 0) = true := bne_iff_ne.mpr c32
           have c32b2 : ¬ (l0_2 = []) := fun h_ => c32 (by rw [h_]; rfl)
           obtain rfl := Option.some.inj H
           have hcz34_0 : wc.cell? ⟨gb208, 0, none⟩ = some (.int .i64 a0_0) := (bkc BK208.out 0).trans rfl
           have hcz34_1 : wc.cell? ⟨gb208, 1, none⟩ = some (.int .i64 a0_1) := (bkc BK208.out 1).trans rfl
           have hcz34_2 : wc.cell? ⟨gb208, 2, none⟩ = some (.slice A0_2 l0_2.length c0_2) := (bkc BK208.out 2).trans rfl
           have hcz34_3 : wc.cell? ⟨gb208, 3, none⟩ = some (.slice A0_3 l0_3.length c0_3) := (bkc BK208.out 3).trans rfl
           have hcz34_4 : wc.cell? ⟨gb208, 4, none⟩ = some (.slice A0_4 l0_4.length c0_4) := (bkc BK208.out 4).trans rfl
           have hcz34_5 : wc.cell? ⟨gb208, 5, none⟩ = some (.int .i64 a0_5) := (bkc BK208.out 5).trans rfl
           have hcz34_6 : wc.cell? ⟨gb208, 6, none⟩ = some (.int .i64 a0_6) := (bkc BK208.out 6).trans rfl
           have hcz34_7 : wc.cell? ⟨gb208, 7, none⟩ = some (.int .i64 a0_7) := (bkc BK208.out 7).trans rfl
           have hcz34_8 : wc.cell? ⟨gb208, 8, none⟩ = some (.int .i64 a0_8) := (bkc BK208.out 8).trans rfl
           have hcz34_9 : wc.cell? ⟨gb208, 9, none⟩ = some (.slice A0_9 l0_9.length c0_9) := (bkc BK208.out 9).trans rfl
           have hcz34_10 : wc.cell? ⟨gb208, 10, none⟩ = some (.int .i64 a0_10) := (bkc BK208.out 10).trans rfl
           have hcz34_11 : wc.cell? ⟨gb208, 11, none⟩ = some (.bool a0_11) := (bkc BK208.out 11).trans rfl
           have hfz34_0 := bkz BK208.out 0
           have hfz34_1 := bkz BK208.out 1
           have hfz34_2 := bkz BK208.out 2
           have hfz34_3 := bkz BK208.out 3
           have hfz34_4 := bkz BK208.out 4
           have hfz34_5 := bkz BK208.out 5
           have hfz34_6 := bkz BK208.out 6
           have hfz34_7 := bkz BK208.out 7
           have hfz34_8 := bkz BK208.out 8
           have hfz34_9 := bkz BK208.out 9
           have hfz34_10 := bkz BK208.out 10
           have hfz34_11 := bkz BK208.out 11
           go_wp2
           go_ret
           exact ⟨by first | rfl | (simp [errW_none, errW_some] <;> rfl) | (simp [*, errW_none, errW_some] <;> rfl), by repeat (first | (with_reducible first | exact HB.out | apply bwa | apply pwN | apply bwd | refine bws ?_ GE208.out) | exact HB.out)⟩
         ·rw [if_neg c31] at H
          have c31b0 : (a0_1 == 2) = false := beq_eq_false_iff_ne.mpr c31
          have c31b1 : (a0_1 != 2) = true := bne_iff_ne.mpr c31
          by_cases c35 : (l0_2.length : Int) = 0
          ·rw [if_pos c35] at H
           have c35b0 : ((l0_2.length : Int) == 0) = true := beq_iff_eq.mpr c35
           have c35b1 : ((l0_2.length : Int) != 0) = false := bne_eq_false_iff_eq.mpr c35
           clear c35
           obtain rfl := Option.some.inj H
           have hcz36_0 : wc.cell? ⟨gb208, 0, none⟩ = some (.int .i64 a0_0) := (bkc BK208.out 0).trans rfl
           have hcz36_1 : wc.cell? ⟨gb208, 1, none⟩ = some (.int .i64 a0_1) := (bkc BK208.out 1).trans rfl
           have hcz36_2 : wc.cell? ⟨gb208, 2, none⟩ = some (.slice A0_2 l0_2.length c0_2) := (bkc BK208.out 2).trans rfl
           have hcz36_3 : wc.cell? ⟨gb208, 3, none⟩ = some (.slice A0_3 l0_3.length c0_3) := (bkc BK208.out 3).trans rfl
           have hcz36_4 : wc.cell? ⟨gb208, 4, none⟩ = some (.slice A0_4 l0_4.length c0_4) := (bkc BK208.out 4).trans rfl
           have hcz36_5 : wc.cell? ⟨gb208, 5, none⟩ = some (.int .i64 a0_5) := (bkc BK208.out 5).trans rfl
           have hcz36_6 : wc.cell? ⟨gb208, 6, none⟩ = some (.int .i64 a0_6) := (bkc BK208.out 6).trans rfl
           have hcz36_7 : wc.cell? ⟨gb208, 7, none⟩ = some (.int .i64 a0_7) := (bkc BK208.out 7).trans rfl
           have hcz36_8 : wc.cell? ⟨gb208, 8, none⟩ = some (.int .i64 a0_8) := (bkc BK208.out 8).trans rfl
           have hcz36_9 : wc.cell? ⟨gb208, 9, none⟩ = some (.slice A0_9 l0_9.length c0_9) := (bkc BK208.out 9).trans rfl
           have hcz36_10 : wc.cell? ⟨gb208, 10, none⟩ = some (.int .i64 a0_10) := (bkc BK208.out 10).trans rfl
           have hcz36_11 : wc.cell? ⟨gb208, 11, none⟩ = some (.bool a0_11) := (bkc BK208.out 11).trans rfl
           have hfz36_0 := bkz BK208.out 0
           have hfz36_1 := bkz BK208.out 1
           have hfz36_2 := bkz BK208.out 2
           have hfz36_3 := bkz BK208.out 3
           have hfz36_4 := bkz BK208.out 4
           have hfz36_5 := bkz BK208.out 5
           have hfz36_6 := bkz BK208.out 6
           have hfz36_7 := bkz BK208.out 7
           have hfz36_8 := bkz BK208.out 8
           have hfz36_9 := bkz BK208.out 9
           have hfz36_10 := bkz BK208.out 10
           have hfz36_11 := bkz BK208.out 11
           go_wp2
           go_ret
           exact ⟨by first | rfl | (simp [errW_none, errW_some] <;> rfl) | (simp [*, errW_none, errW_some] <;> rfl), by repeat (first | (with_reducible first | exact HB.out | apply bwa | apply pwN | apply bwd | refine bws ?_ GE208.out) | exact HB.out)⟩
          ·rw [if_neg c35] at H
           have c35b0 : ((l0_2.length : Int) == 0) = false := beq_eq_false_iff_ne.mpr c35
           have c35b1 : ((l0_2.length : Int) != 0) = true := bne_iff_ne.mpr c35
           have c35b2 : ¬ (l0_2 = []) := fun h_ => c35 (by rw [h_]; rfl)
           obtain rfl := Option.some.inj H
           have hcz37_0 : wc.cell? ⟨gb208, 0, none⟩ = some (.int .i64 a0_0) := (bkc BK208.out 0).trans rfl
           have hcz37_1 : wc.cell? ⟨gb208, 1, none⟩ = some (.int .i64 a0_1) := (bkc BK208.out 1).trans rfl
           have hcz37_2 : wc.cell? ⟨gb208, 2, none⟩ = some (.slice A0_2 l0_2.length c0_2) := (bkc BK208.out 2).trans rfl
           have hcz37_3 : wc.cell? ⟨gb208, 3, none⟩ = some (.slice A0_3 l0_3.length c0_3) := (bkc BK208.out 3).trans rfl
           have hcz37_4 : wc.cell? ⟨gb208, 4, none⟩ = some (.slice A0_4 l0_4.length c0_4) := (bkc BK208.out 4).trans rfl
           have hcz37_5 : wc.cell? ⟨gb208, 5, none⟩ = some (.int .i64 a0_5) := (bkc BK208.out 5).trans rfl
           have hcz37_6 : wc.cell? ⟨gb208, 6, none⟩ = some (.int .i64 a0_6) := (bkc BK208.out 6).trans rfl
           have hcz37_7 : wc.cell? ⟨gb208, 7, none⟩ = some (.int .i64 a0_7) := (bkc BK208.out 7).trans rfl
           have hcz37_8 : wc.cell? ⟨gb208, 8, none⟩ = some (.int .i64 a0_8) := (bkc BK208.out 8).trans rfl
           have hcz37_9 : wc.cell? ⟨gb208, 9, none⟩ = some (.slice A0_9 l0_9.length c0_9) := (bkc BK208.out 9).trans rfl
           have hcz37_10 : wc.cell? ⟨gb208, 10, none⟩ = some (.int .i64 a0_10) := (bkc BK208.out 10).trans rfl
           have hcz37_11 : wc.cell? ⟨gb208, 11, none⟩ = some (.bool a0_11) := (bkc BK208.out 11).trans rfl
           have hfz37_0 := bkz BK208.out 0
           have hfz37_1 := bkz BK208.out 1
           have hfz37_2 := bkz BK208.out 2
           have hfz37_3 := bkz BK208.out 3
           have hfz37_4 := bkz BK208.out 4
           have hfz37_5 := bkz BK208.out 5
           have hfz37_6 := bkz BK208.out 6
           have hfz37_7 := bkz BK208.out 7
           have hfz37_8 := bkz BK208.out 8
           have hfz37_9 := bkz BK208.out 9
           have hfz37_10 := bkz BK208.out 10
           have hfz37_11 := bkz BK208.out 11
           go_wp2
           go_ret
           exact ⟨by first | rfl | (simp [errW_none, errW_some] <;> rfl) | (simp [*, errW_none, errW_some] <;> rfl), by repeat (first | (with_reducible first | exact HB.out | apply bwa | apply pwN | apply bwd | refine bws ?_ GE208.out) | exact HB.out)⟩
theorem enters_57 : ∀ (args : Array Value) (W : World), (callFunc 57 args).run Tryz.prog W = .ok (.enter 57 args) W := enters_of Tryz.func57 (by kernel_rfl) rfl
def chkA : Int → List S68 → Option (Option (Int × Int))
 | _, [] => some none
 | i, x :: t => (item_ranges.f x.f0 x.f1 x.f2 x.f3 x.f4 x.f5 x.f6 x.f7 x.f8 x.f9 x.f10 x.f11).bind fun a => if a = false then some (some (1, i)) else (item_unused.f 4 x.f0 x.f1 x.f2 x.f3 x.f4 x.f5 x.f6 x.f7 x.f8 x.f9 x.f10 x.f11).bind fun b => if b = false then some (some (4, i)) else if 65536 < x.f2.length then some (some (4, i)) else chkA (i + 1) t
def chkB (l : List S68) : Int → List S68 → Option (Int × Int)
 | _, [] => none
 | i, x :: t => if findI l x.f0 < i then some (30, i) else if (x.f3.any fun id => decide (findI l id < 0)) = true then some (5, i) else chkB l (i + 1) t
def chkC (l : List S68) : Int → List S68 → Option (Option (Int × Int))
 | _, [] => some none
 | i, _ :: t => (item_loops.f l i).bind fun b => if b = true then some (some (150, i)) else chkC l (i + 1) t
def item_Check.f (l0 : List S68) : Option (Int × Int) :=
 if 12 < l0.length then some (2, -1) else (chkA 0 l0).bind fun a => match a with
  | some r => some r
  | none => match chkB l0 0 l0 with
   | some r => some r
   | none => (chkC l0 0 l0).bind fun c => match c with
    | some r => some r
    | none => some (0, -1)
set_option maxHeartbeats 8000000 in
set_option maxRecDepth 100000 in
theorem pred_57 (A0 : Option Addr) (c0 : Nat) (l0 : List S68) (gb : Nat) (w : World) (hr0 : Kd.C k68 w A0 l0.length l0) (hc0 : l0.length ≤ c0) (hb : w.heap[gb]? = some (.cells #[.slice A0 l0.length c0] 35 (0, 0))) : PredIn Tryz.prog 57 #[.pointer (some ⟨gb, 0, none⟩)] (fun _ (x : Int) v => v = .int .i64 x) (fun id => decide (findI l0 id < 0)) w := ⟨enters_57, fun W x v hW he => by
 subst he
 have k0 : W.cell? ⟨gb, 0, none⟩ = some (.slice A0 l0.length c0) := (bkc ((hW.block gb (blk_lt hb)).trans hb) 0).trans rfl
 have HR := As0.mk (Kd.C_below hr0 hW)
 have HC := As0.mk hc0
 clear hr0 hc0 hb hW
 simp only [List.append_toArray, List.cons_append, List.nil_append]
 go_enter Tryz.func57, Tryz.ntmps57
 go_wp2_with (go_at_call 55; (with_reducible refine (item_find.calls A0 c0 l0 x (findI l0 x) _ HR.out HC.out rfl).mono ?_); rintro e w' ⟨rfl, hb⟩; have HB := As0.mk hb; clear hb)
 go_ret
 exact ⟨rfl, HB.out⟩⟩
set_option maxHeartbeats 32000000 in
set_option maxRecDepth 100000 in
theorem item_Check.calls (A0 : Option Addr) (c0 : Nat) (l0 : List S68) (r1 : Int) (r2 : Int) (w : World) (hr0 : Kd.C k68 w A0 l0.length l0) (hc0 : l0.length ≤ c0) (h : item_Check.f l0 = some (r1, r2)) :
  Calls Tryz.prog 19 #[.slice A0 l0.length c0] w fun e w' => e = .returned (.tuple #[.int .i64 r1, .int .i64 r2]) ∧ Below w.heap.size w w' := by
 have HR := As0.mk hr0
 have HC := As0.mk hc0
 clear hr0 hc0
 have hu68 := Tryz.underlying68
 have hmf := makeFunc_run
 unfold item_Check.f at h
 by_cases hlen : 12 < l0.length
 ·rw [if_pos hlen] at h
  obtain ⟨rfl, rfl⟩ := Prod.mk.inj (Option.some.inj h)
  have d0 : decide (12 < (l0.length : Int)) = true := decide_eq_true (by omega)
  clear h hlen
  go_enter Tryz.func19, Tryz.ntmps19
  go_wp2
  go_ret2
  exact ⟨rfl, by repeat (first | exact Below.refl _ _ | apply bwa)⟩
 ·rw [if_neg hlen] at h
  have HL : As0 (l0.length ≤ 12) := ⟨by omega⟩
  have d0 : decide (12 < (l0.length : Int)) = false := decide_eq_false (by omega)
  clear hlen
  have H := As0.mk h
  clear h
  go_enter Tryz.func19, Tryz.ntmps19
  go_wp2
  have H2 : As0 (((chkA (0 : Int) (l0.drop (0 : Int).toNat)).bind fun a => match a with
   | some r => some r
   | none => match chkB l0 0 l0 with
    | some r => some r
    | none => (chkC l0 0 l0).bind fun c => match c with
     | some r => some r
     | none => some (0, -1)) = some (r1, r2)) := ⟨H.out⟩
  clear H
  go_loopg [14] l0.length (fun kq v14 w' => ∃ (i : Int), v14 = .int .i64 i ∧ As0 (0 ≤ i ∧ i + kq = l0.length) ∧ As0 (((chkA i (l0.drop i.toNat)).bind fun a => match a with
   | some r => some r
   | none => match chkB l0 0 l0 with
    | some r => some r
    | none => (chkC l0 0 l0).bind fun c => match c with
     | some r => some r
     | none => some (0, -1)) = some (r1, r2)) ∧ As0 (w'.heap[w.heap.size]? = some (.cells #[.slice A0 l0.length c0] 35 (0, 0))) ∧ As0 (Below w.heap.size w w'))
  case atStart => exact ⟨0, rfl, ⟨by omega, by omega⟩, H2, ⟨heap_alloc_new w _⟩, ⟨bwa (Below.refl _ _) _⟩⟩
  case round =>
   clear H2
   obtain ⟨i, rfl, HI, HST, BKb, HB⟩ := hrel
   cases gk with
   | zero =>
    have hge : decide (i < (l0.length : Int)) = false := by have := HI.out; simp; omega
    have hst := HST.out
    rw [List.drop_eq_nil_of_le (by have := HI.out; omega)] at hst
    clear HST
    have HST := As0.mk hst
    clear hst
    have kb : wr.cell? ⟨w.heap.size, 0, none⟩ = some (.slice A0 l0.length c0) := (bkc BKb.out 0).trans rfl
    go_wp2
    clear kb
    go_loopg [36] l0.length (fun kq v36 w' => ∃ (i : Int), v36 = .int .i64 i ∧ As0 (0 ≤ i ∧ i + kq = l0.length) ∧ As0 ((match chkB l0 i (l0.drop i.toNat) with
       | some r => some r
       | none => (chkC l0 0 l0).bind fun c => match c with
        | some r => some r
        | none => some (0, -1)) = some (r1, r2)) ∧ As0 (w'.heap[w.heap.size]? = some (.cells #[.slice A0 l0.length c0] 35 (0, 0))) ∧ As0 (Below w.heap.size w w'))
    case atStart => exact ⟨0, rfl, ⟨by omega, by omega⟩, ⟨HST.out⟩, BKb, HB⟩
    case round =>
     clear HST BKb HB HI hge
     obtain ⟨i, rfl, HI, HST, BKb, HB⟩ := hrel
     have kb : wr.cell? ⟨w.heap.size, 0, none⟩ = some (.slice A0 l0.length c0) := (bkc BKb.out 0).trans rfl
     have kba : ∀ o : Obj, (wr.alloc o).cell? ⟨w.heap.size, 0, none⟩ = some (.slice A0 l0.length c0) := fun o => (bkc (bka BKb.out o) 0).trans rfl
     cases gk with
     | zero =>
      have hge : decide (i < (l0.length : Int)) = false := by have := HI.out; simp; omega
      have hst := HST.out
      rw [List.drop_eq_nil_of_le (by have := HI.out; omega)] at hst
      simp only [chkB] at hst
      have H3 : As0 (((chkC l0 (0 : Int) (l0.drop (0 : Int).toNat)).bind fun c => match c with
        | some r => some r
        | none => some (0, -1)) = some (r1, r2)) := ⟨hst⟩
      clear hst HST kba
      go_wp2
      clear kb
      go_loopg [56] l0.length (fun kq v56 w' => ∃ (i : Int), v56 = .int .i64 i ∧ As0 (0 ≤ i ∧ i + kq = l0.length) ∧ As0 (((chkC l0 i (l0.drop i.toNat)).bind fun c => match c with
        | some r => some r
        | none => some (0, -1)) = some (r1, r2)) ∧ As0 (w'.heap[w.heap.size]? = some (.cells #[.slice A0 l0.length c0] 35 (0, 0))) ∧ As0 (Below w.heap.size w w'))
      case atStart => exact ⟨0, rfl, ⟨by omega, by omega⟩, H3, BKb, HB⟩
      case round =>
       clear H3 BKb HB HI hge
       obtain ⟨i, rfl, HI, HST, BKb, HB⟩ := hrel
       have kb : wr.cell? ⟨w.heap.size, 0, none⟩ = some (.slice A0 l0.length c0) := (bkc BKb.out 0).trans rfl
       cases gk with
       | zero =>
        have hge : decide (i < (l0.length : Int)) = false := by have := HI.out; simp; omega
        have hst := HST.out
        rw [List.drop_eq_nil_of_le (by have := HI.out; omega)] at hst
        simp only [chkC, Option.bind_some] at hst
        obtain ⟨rfl, rfl⟩ := Prod.mk.inj (Option.some.inj hst)
        clear hst HST
        go_wp2
        go_ret2
        exact ⟨rfl, HB.out⟩
       | succ kq3 =>
        have hil : i.toNat < l0.length := by have := HI.out; omega
        have hge : decide (i < (l0.length : Int)) = true := by have := HI.out; simp; omega
        have hst := HST.out
        rw [List.drop_eq_getElem_cons hil] at hst
        simp only [chkC] at hst
        rw [Option.bind_assoc] at hst
        obtain ⟨lb, hlb, hst⟩ := Option.bind_eq_some_iff.1 hst
        have HLB := As0.mk hlb
        clear hlb HST hil
        have hw : As0 (wrap64 (i + 1) = i + 1 ∧ (i + 1).toNat = i.toNat + 1) := ⟨by have := HI.out; have := HL.out; unfold wrap64; omega, by have := HI.out; omega⟩
        cases hlbb : lb with
        | true =>
         subst hlbb
         simp only [if_true, Option.bind_some] at hst
         obtain ⟨rfl, rfl⟩ := Prod.mk.inj (Option.some.inj hst)
         clear hst
         go_wp2_with (go_at_call 58; (with_reducible refine (item_loops.calls A0 c0 l0 i _ _ (Kd.C_below HR.out HB.out) HC.out HLB.out).mono ?_); rintro e w5 ⟨rfl, hb⟩; have HB5 := As0.mk hb; clear hb)
         go_ret2
         exact ⟨rfl, pwt HB.out HB5.out⟩
        | false =>
         subst hlbb
         simp only [Bool.false_eq_true, if_false] at hst
         have HST := As0.mk hst
         clear hst
         go_wp2_with (go_at_call 58; (with_reducible refine (item_loops.calls A0 c0 l0 i _ _ (Kd.C_below HR.out HB.out) HC.out HLB.out).mono ?_); rintro e w5 ⟨rfl, hb⟩; have HB5 := As0.mk hb; clear hb)
         go_roundg kq3
         case measure => omega
         case rel => exact ⟨i + 1, congrArg _ hw.out.1, ⟨by have := HI.out; omega, by have := HI.out; omega⟩, ⟨by rw [hw.out.2]; exact HST.out⟩, ⟨bkb BKb.out HB5.out⟩, ⟨pwt HB.out HB5.out⟩⟩
     | succ kq2 =>
      have h0 : 0 ≤ i := by have := HI.out; omega
      have h1 : i < (l0.length : Int) := by have := HI.out; omega
      have hge : decide (i < (l0.length : Int)) = true := decide_eq_true h1
      have hg0 : decide (0 ≤ i) = true := decide_eq_true h0
      have hl12 := HL.out
      obtain ⟨ad, A2, c2, A3, c3, A4, c4, A9, c9, e0, hx0, hx1, hx2, hx3, hx4, hx5, hx6, hx7, hx8, hx9, hx10, hx11, g1, g2, g3, g4, g5, g6, g7, g8⟩ := at_T68 (Kd.C_below HR.out HB.out) i h0 h1
      cases e0
      have HX := As0.mk (And.intro g1 (And.intro g2 (And.intro g3 (And.intro g4 (And.intro g5 (And.intro g6 (And.intro g7 g8)))))))
      clear g1 g2 g3 g4 g5 g6 g7 g8
      have hdr : l0.drop i.toNat = rd_T68 l0 i :: l0.drop (i.toNat + 1) := by
       have hl : i.toNat < l0.length := by omega
       rw [List.drop_eq_getElem_cons hl]
       congr 1
       simp [rd_T68, List.getD_eq_getElem?_getD, hl]
      have hst := HST.out
      rw [hdr] at hst
      clear hdr HST
      generalize rd_T68 l0 i = x at *
      have hw : As0 (wrap64 (i + 1) = i + 1 ∧ (i + 1).toNat = i.toNat + 1) := ⟨by have := HI.out; have := HL.out; unfold wrap64; omega, by omega⟩
      replace h0 := eq_true h0
      replace h1 := eq_true h1
      clear hl12
      simp only [chkB] at hst
      by_cases hf : findI l0 x.f0 < i
      ·rw [if_pos hf] at hst
       obtain ⟨rfl, rfl⟩ := Prod.mk.inj (Option.some.inj hst)
       clear hst
       have df : decide (findI l0 x.f0 < i) = true := decide_eq_true hf
       clear hf
       go_wp2_with (first | (go_at_call 55; (with_reducible refine (item_find.calls (some ad) c0 l0 x.f0 (findI l0 x.f0) _ (Kd.C_alloc (Kd.C_below HR.out HB.out) _) HC.out rfl).mono ?_); rintro e w5 ⟨rfl, hb⟩; have BK5 := As0.mk (bkb (heap_alloc_new wr (.cells #[.int .i64 x.f0, .int .i64 x.f1, .slice A2 x.f2.length c2, .slice A3 x.f3.length c3, .slice A4 x.f4.length c4, .int .i64 x.f5, .int .i64 x.f6, .int .i64 x.f7, .int .i64 x.f8, .slice A9 x.f9.length c9, .int .i64 x.f10, .bool x.f11] 68)) hb); have HB5 := As0.mk (pwt (bwa (Below.refl _ _) _) hb); have j0 : w5.cell? ⟨w.heap.size, 0, none⟩ = some (.slice (some ad) l0.length c0) := (bkc (bkb BKb.out HB5.out) 0).trans rfl; clear hb; have j3 : w5.cell? ⟨wr.heap.size, 3, none⟩ = some (.slice A3 x.f3.length c3) := (bkc BK5.out 3).trans rfl))
       go_ret2
       exact ⟨rfl, pwt HB.out HB5.out⟩
      ·rw [if_neg hf] at hst
       have df : decide (findI l0 x.f0 < i) = false := decide_eq_false hf
       clear hf
       cases ha : (x.f3.any fun id => decide (findI l0 id < 0)) with
       | true =>
        rw [if_pos ha] at hst
        obtain ⟨rfl, rfl⟩ := Prod.mk.inj (Option.some.inj hst)
        have ANY := As0.mk ha
        clear hst ha
        go_wp2_with (first | (go_at_call 55; (with_reducible refine (item_find.calls (some ad) c0 l0 x.f0 (findI l0 x.f0) _ (Kd.C_alloc (Kd.C_below HR.out HB.out) _) HC.out rfl).mono ?_); rintro e w5 ⟨rfl, hb⟩; have BK5 := As0.mk (bkb (heap_alloc_new wr (.cells #[.int .i64 x.f0, .int .i64 x.f1, .slice A2 x.f2.length c2, .slice A3 x.f3.length c3, .slice A4 x.f4.length c4, .int .i64 x.f5, .int .i64 x.f6, .int .i64 x.f7, .int .i64 x.f8, .slice A9 x.f9.length c9, .int .i64 x.f10, .bool x.f11] 68)) hb); have HB5 := As0.mk (pwt (bwa (Below.refl _ _) _) hb); have j0 : w5.cell? ⟨w.heap.size, 0, none⟩ = some (.slice (some ad) l0.length c0) := (bkc (bkb BKb.out HB5.out) 0).trans rfl; clear hb; have j3 : w5.cell? ⟨wr.heap.size, 3, none⟩ = some (.slice A3 x.f3.length c3) := (bkc BK5.out 3).trans rfl) | (go_at_call 56; (with_reducible refine (ContainsFunc_int.calls 57 #[.pointer (some ⟨w.heap.size, 0, none⟩)] (fun id => decide (findI l0 id < 0)) A3 c3 x.f3 _ (Kd.C_below HX.out.2.2.2.1 HB5.out) (pred_57 (some ad) c0 l0 w.heap.size _ (Kd.C_below (Kd.C_below HR.out HB.out) HB5.out) HC.out (bkb BKb.out HB5.out))).mono ?_); rintro e w6 ⟨rfl, hb⟩; have HB6 := As0.mk (pwt HB5.out hb); clear hb; try rw [ANY.out]))
        go_ret2
        exact ⟨rfl, pwt HB.out HB6.out⟩
       | false =>
        rw [if_neg (by rw [ha]; decide)] at hst
        have HST := As0.mk hst
        have ANY := As0.mk ha
        clear hst ha
        go_wp2_with (first | (go_at_call 55; (with_reducible refine (item_find.calls (some ad) c0 l0 x.f0 (findI l0 x.f0) _ (Kd.C_alloc (Kd.C_below HR.out HB.out) _) HC.out rfl).mono ?_); rintro e w5 ⟨rfl, hb⟩; have BK5 := As0.mk (bkb (heap_alloc_new wr (.cells #[.int .i64 x.f0, .int .i64 x.f1, .slice A2 x.f2.length c2, .slice A3 x.f3.length c3, .slice A4 x.f4.length c4, .int .i64 x.f5, .int .i64 x.f6, .int .i64 x.f7, .int .i64 x.f8, .slice A9 x.f9.length c9, .int .i64 x.f10, .bool x.f11] 68)) hb); have HB5 := As0.mk (pwt (bwa (Below.refl _ _) _) hb); have j0 : w5.cell? ⟨w.heap.size, 0, none⟩ = some (.slice (some ad) l0.length c0) := (bkc (bkb BKb.out HB5.out) 0).trans rfl; clear hb; have j3 : w5.cell? ⟨wr.heap.size, 3, none⟩ = some (.slice A3 x.f3.length c3) := (bkc BK5.out 3).trans rfl) | (go_at_call 56; (with_reducible refine (ContainsFunc_int.calls 57 #[.pointer (some ⟨w.heap.size, 0, none⟩)] (fun id => decide (findI l0 id < 0)) A3 c3 x.f3 _ (Kd.C_below HX.out.2.2.2.1 HB5.out) (pred_57 (some ad) c0 l0 w.heap.size _ (Kd.C_below (Kd.C_below HR.out HB.out) HB5.out) HC.out (bkb BKb.out HB5.out))).mono ?_); rintro e w6 ⟨rfl, hb⟩; have HB6 := As0.mk (pwt HB5.out hb); clear hb; try rw [ANY.out]))
        go_roundg kq2
        case measure => omega
        case rel => exact ⟨i + 1, congrArg _ hw.out.1, ⟨by have := HI.out; omega, by have := HI.out; omega⟩, ⟨by rw [hw.out.2]; exact HST.out⟩, ⟨bkb BKb.out HB6.out⟩, ⟨pwt HB.out HB6.out⟩⟩
   | succ kq1 =>
    have h0 : 0 ≤ i := by have := HI.out; omega
    have h1 : i < (l0.length : Int) := by have := HI.out; omega
    have hge : decide (i < (l0.length : Int)) = true := decide_eq_true h1
    have hg0 : decide (0 ≤ i) = true := decide_eq_true h0
    have hl12 := HL.out
    obtain ⟨ad, A2, c2, A3, c3, A4, c4, A9, c9, e0, hx0, hx1, hx2, hx3, hx4, hx5, hx6, hx7, hx8, hx9, hx10, hx11, g1, g2, g3, g4, g5, g6, g7, g8⟩ := at_T68 (Kd.C_below HR.out HB.out) i h0 h1
    cases e0
    have HX := As0.mk (And.intro g1 (And.intro g2 (And.intro g3 (And.intro g4 (And.intro g5 (And.intro g6 (And.intro g7 g8)))))))
    clear g1 g2 g3 g4 g5 g6 g7 g8
    have hdr : l0.drop i.toNat = rd_T68 l0 i :: l0.drop (i.toNat + 1) := by
     have hl : i.toNat < l0.length := by omega
     rw [List.drop_eq_getElem_cons hl]
     congr 1
     simp [rd_T68, List.getD_eq_getElem?_getD, hl]
    have hst := HST.out
    rw [hdr] at hst
    clear hdr HST
    generalize rd_T68 l0 i = x at *
    have hw : As0 (wrap64 (i + 1) = i + 1 ∧ (i + 1).toNat = i.toNat + 1) := ⟨by have := HI.out; have := HL.out; unfold wrap64; omega, by omega⟩
    replace h0 := eq_true h0
    replace h1 := eq_true h1
    clear hl12
    simp only [chkA, Option.bind_assoc] at hst
    obtain ⟨ra, hra, hst⟩ := Option.bind_eq_some_iff.1 hst
    have HRA := As0.mk hra
    clear hra
    cases hrab : ra with
    | false =>
     subst hrab
     simp only [if_true, Option.bind_some] at hst
     obtain ⟨rfl, rfl⟩ := Prod.mk.inj (Option.some.inj hst)
     clear hst
     have RA : As0 (True) := ⟨trivial⟩
     go_wp2_with (first | (go_at_call 53; (with_reducible refine (item_ranges.calls x.f0 x.f1 A2 c2 x.f2 A3 c3 x.f3 A4 c4 x.f4 x.f5 x.f6 x.f7 x.f8 A9 c9 x.f9 x.f10 x.f11 _ _ ?s2 HX.out.1 ?s3 HX.out.2.2.1 ?s4 HX.out.2.2.2.2.1 ?s9 HX.out.2.2.2.2.2.2.1 HRA.out).mono ?_); (case s2 => exact Kd.C_alloc (HX.out.2.1) _); (case s3 => exact Kd.C_alloc (HX.out.2.2.2.1) _); (case s4 => exact Kd.C_alloc (HX.out.2.2.2.2.2.1) _); (case s9 => exact Kd.C_alloc (HX.out.2.2.2.2.2.2.2) _); rintro e w5 ⟨rfl, hb⟩; have BK5 := As0.mk (bkb (heap_alloc_new wr (.cells #[.int .i64 x.f0, .int .i64 x.f1, .slice A2 x.f2.length c2, .slice A3 x.f3.length c3, .slice A4 x.f4.length c4, .int .i64 x.f5, .int .i64 x.f6, .int .i64 x.f7, .int .i64 x.f8, .slice A9 x.f9.length c9, .int .i64 x.f10, .bool x.f11] 68)) hb); have HB5 := As0.mk (pwt (bwa (Below.refl _ _) _) hb); clear hb; have j0 : w5.cell? ⟨wr.heap.size, 0, none⟩ = some (.int .i64 x.f0) := (bkc BK5.out 0).trans rfl; have j1 : w5.cell? ⟨wr.heap.size, 1, none⟩ = some (.int .i64 x.f1) := (bkc BK5.out 1).trans rfl; have j2 : w5.cell? ⟨wr.heap.size, 2, none⟩ = some (.slice A2 x.f2.length c2) := (bkc BK5.out 2).trans rfl; have j3 : w5.cell? ⟨wr.heap.size, 3, none⟩ = some (.slice A3 x.f3.length c3) := (bkc BK5.out 3).trans rfl; have j4 : w5.cell? ⟨wr.heap.size, 4, none⟩ = some (.slice A4 x.f4.length c4) := (bkc BK5.out 4).trans rfl; have j5 : w5.cell? ⟨wr.heap.size, 5, none⟩ = some (.int .i64 x.f5) := (bkc BK5.out 5).trans rfl; have j6 : w5.cell? ⟨wr.heap.size, 6, none⟩ = some (.int .i64 x.f6) := (bkc BK5.out 6).trans rfl; have j7 : w5.cell? ⟨wr.heap.size, 7, none⟩ = some (.int .i64 x.f7) := (bkc BK5.out 7).trans rfl; have j8 : w5.cell? ⟨wr.heap.size, 8, none⟩ = some (.int .i64 x.f8) := (bkc BK5.out 8).trans rfl; have j9 : w5.cell? ⟨wr.heap.size, 9, none⟩ = some (.slice A9 x.f9.length c9) := (bkc BK5.out 9).trans rfl; have j10 : w5.cell? ⟨wr.heap.size, 10, none⟩ = some (.int .i64 x.f10) := (bkc BK5.out 10).trans rfl; have j11 : w5.cell? ⟨wr.heap.size, 11, none⟩ = some (.bool x.f11) := (bkc BK5.out 11).trans rfl))
     go_ret2
     exact ⟨rfl, pwt HB.out HB5.out⟩
    | true =>
     subst hrab
     simp only [Bool.true_eq_false, if_false] at hst
     rw [Option.bind_assoc] at hst
     obtain ⟨ub, hub, hst⟩ := Option.bind_eq_some_iff.1 hst
     have HUB := As0.mk hub
     clear hub
     have RA : As0 (True) := ⟨trivial⟩
     have UB : As0 (True) := ⟨trivial⟩
     cases hubb : ub with
     | false =>
      subst hubb
      simp only [if_true, Option.bind_some] at hst
      obtain ⟨rfl, rfl⟩ := Prod.mk.inj (Option.some.inj hst)
      clear hst
      go_wp2_with (first | (go_at_call 53; (with_reducible refine (item_ranges.calls x.f0 x.f1 A2 c2 x.f2 A3 c3 x.f3 A4 c4 x.f4 x.f5 x.f6 x.f7 x.f8 A9 c9 x.f9 x.f10 x.f11 _ _ ?s2 HX.out.1 ?s3 HX.out.2.2.1 ?s4 HX.out.2.2.2.2.1 ?s9 HX.out.2.2.2.2.2.2.1 HRA.out).mono ?_); (case s2 => exact Kd.C_alloc (HX.out.2.1) _); (case s3 => exact Kd.C_alloc (HX.out.2.2.2.1) _); (case s4 => exact Kd.C_alloc (HX.out.2.2.2.2.2.1) _); (case s9 => exact Kd.C_alloc (HX.out.2.2.2.2.2.2.2) _); rintro e w5 ⟨rfl, hb⟩; have BK5 := As0.mk (bkb (heap_alloc_new wr (.cells #[.int .i64 x.f0, .int .i64 x.f1, .slice A2 x.f2.length c2, .slice A3 x.f3.length c3, .slice A4 x.f4.length c4, .int .i64 x.f5, .int .i64 x.f6, .int .i64 x.f7, .int .i64 x.f8, .slice A9 x.f9.length c9, .int .i64 x.f10, .bool x.f11] 68)) hb); have HB5 := As0.mk (pwt (bwa (Below.refl _ _) _) hb); clear hb; have j0 : w5.cell? ⟨wr.heap.size, 0, none⟩ = some (.int .i64 x.f0) := (bkc BK5.out 0).trans rfl; have j1 : w5.cell? ⟨wr.heap.size, 1, none⟩ = some (.int .i64 x.f1) := (bkc BK5.out 1).trans rfl; have j2 : w5.cell? ⟨wr.heap.size, 2, none⟩ = some (.slice A2 x.f2.length c2) := (bkc BK5.out 2).trans rfl; have j3 : w5.cell? ⟨wr.heap.size, 3, none⟩ = some (.slice A3 x.f3.length c3) := (bkc BK5.out 3).trans rfl; have j4 : w5.cell? ⟨wr.heap.size, 4, none⟩ = some (.slice A4 x.f4.length c4) := (bkc BK5.out 4).trans rfl; have j5 : w5.cell? ⟨wr.heap.size, 5, none⟩ = some (.int .i64 x.f5) := (bkc BK5.out 5).trans rfl; have j6 : w5.cell? ⟨wr.heap.size, 6, none⟩ = some (.int .i64 x.f6) := (bkc BK5.out 6).trans rfl; have j7 : w5.cell? ⟨wr.heap.size, 7, none⟩ = some (.int .i64 x.f7) := (bkc BK5.out 7).trans rfl; have j8 : w5.cell? ⟨wr.heap.size, 8, none⟩ = some (.int .i64 x.f8) := (bkc BK5.out 8).trans rfl; have j9 : w5.cell? ⟨wr.heap.size, 9, none⟩ = some (.slice A9 x.f9.length c9) := (bkc BK5.out 9).trans rfl; have j10 : w5.cell? ⟨wr.heap.size, 10, none⟩ = some (.int .i64 x.f10) := (bkc BK5.out 10).trans rfl; have j11 : w5.cell? ⟨wr.heap.size, 11, none⟩ = some (.bool x.f11) := (bkc BK5.out 11).trans rfl) | (go_at_call 54; (with_reducible refine (item_unused.calls 4 x.f0 x.f1 A2 c2 x.f2 A3 c3 x.f3 A4 c4 x.f4 x.f5 x.f6 x.f7 x.f8 A9 c9 x.f9 x.f10 x.f11 _ _ ?s2 HX.out.1 ?s3 HX.out.2.2.1 ?s4 HX.out.2.2.2.2.1 ?s9 HX.out.2.2.2.2.2.2.1 HUB.out).mono ?_); (case s2 => exact Kd.C_below HX.out.2.1 HB5.out); (case s3 => exact Kd.C_below HX.out.2.2.2.1 HB5.out); (case s4 => exact Kd.C_below HX.out.2.2.2.2.2.1 HB5.out); (case s9 => exact Kd.C_below HX.out.2.2.2.2.2.2.2 HB5.out); rintro e w6 ⟨rfl, hb⟩; have BK6 := As0.mk (bkb BK5.out hb); have HB6 := As0.mk (pwt HB5.out hb); clear hb; clear j0 j1 j2 j3 j4 j5 j6 j7 j8 j9 j10 j11; have j2 : w6.cell? ⟨wr.heap.size, 2, none⟩ = some (.slice A2 x.f2.length c2) := (bkc BK6.out 2).trans rfl))
      go_ret2
      exact ⟨rfl, pwt HB.out HB6.out⟩
     | true =>
      subst hubb
      simp only [Bool.true_eq_false, if_false] at hst
      by_cases hlx : 65536 < x.f2.length
      ·rw [if_pos hlx] at hst
       simp only [Option.bind_some] at hst
       obtain ⟨rfl, rfl⟩ := Prod.mk.inj (Option.some.inj hst)
       clear hst
       have dx : decide (65536 < (x.f2.length : Int)) = true := decide_eq_true (by omega)
       clear hlx
       go_wp2_with (first | (go_at_call 53; (with_reducible refine (item_ranges.calls x.f0 x.f1 A2 c2 x.f2 A3 c3 x.f3 A4 c4 x.f4 x.f5 x.f6 x.f7 x.f8 A9 c9 x.f9 x.f10 x.f11 _ _ ?s2 HX.out.1 ?s3 HX.out.2.2.1 ?s4 HX.out.2.2.2.2.1 ?s9 HX.out.2.2.2.2.2.2.1 HRA.out).mono ?_); (case s2 => exact Kd.C_alloc (HX.out.2.1) _); (case s3 => exact Kd.C_alloc (HX.out.2.2.2.1) _); (case s4 => exact Kd.C_alloc (HX.out.2.2.2.2.2.1) _); (case s9 => exact Kd.C_alloc (HX.out.2.2.2.2.2.2.2) _); rintro e w5 ⟨rfl, hb⟩; have BK5 := As0.mk (bkb (heap_alloc_new wr (.cells #[.int .i64 x.f0, .int .i64 x.f1, .slice A2 x.f2.length c2, .slice A3 x.f3.length c3, .slice A4 x.f4.length c4, .int .i64 x.f5, .int .i64 x.f6, .int .i64 x.f7, .int .i64 x.f8, .slice A9 x.f9.length c9, .int .i64 x.f10, .bool x.f11] 68)) hb); have HB5 := As0.mk (pwt (bwa (Below.refl _ _) _) hb); clear hb; have j0 : w5.cell? ⟨wr.heap.size, 0, none⟩ = some (.int .i64 x.f0) := (bkc BK5.out 0).trans rfl; have j1 : w5.cell? ⟨wr.heap.size, 1, none⟩ = some (.int .i64 x.f1) := (bkc BK5.out 1).trans rfl; have j2 : w5.cell? ⟨wr.heap.size, 2, none⟩ = some (.slice A2 x.f2.length c2) := (bkc BK5.out 2).trans rfl; have j3 : w5.cell? ⟨wr.heap.size, 3, none⟩ = some (.slice A3 x.f3.length c3) := (bkc BK5.out 3).trans rfl; have j4 : w5.cell? ⟨wr.heap.size, 4, none⟩ = some (.slice A4 x.f4.length c4) := (bkc BK5.out 4).trans rfl; have j5 : w5.cell? ⟨wr.heap.size, 5, none⟩ = some (.int .i64 x.f5) := (bkc BK5.out 5).trans rfl; have j6 : w5.cell? ⟨wr.heap.size, 6, none⟩ = some (.int .i64 x.f6) := (bkc BK5.out 6).trans rfl; have j7 : w5.cell? ⟨wr.heap.size, 7, none⟩ = some (.int .i64 x.f7) := (bkc BK5.out 7).trans rfl; have j8 : w5.cell? ⟨wr.heap.size, 8, none⟩ = some (.int .i64 x.f8) := (bkc BK5.out 8).trans rfl; have j9 : w5.cell? ⟨wr.heap.size, 9, none⟩ = some (.slice A9 x.f9.length c9) := (bkc BK5.out 9).trans rfl; have j10 : w5.cell? ⟨wr.heap.size, 10, none⟩ = some (.int .i64 x.f10) := (bkc BK5.out 10).trans rfl; have j11 : w5.cell? ⟨wr.heap.size, 11, none⟩ = some (.bool x.f11) := (bkc BK5.out 11).trans rfl) | (go_at_call 54; (with_reducible refine (item_unused.calls 4 x.f0 x.f1 A2 c2 x.f2 A3 c3 x.f3 A4 c4 x.f4 x.f5 x.f6 x.f7 x.f8 A9 c9 x.f9 x.f10 x.f11 _ _ ?s2 HX.out.1 ?s3 HX.out.2.2.1 ?s4 HX.out.2.2.2.2.1 ?s9 HX.out.2.2.2.2.2.2.1 HUB.out).mono ?_); (case s2 => exact Kd.C_below HX.out.2.1 HB5.out); (case s3 => exact Kd.C_below HX.out.2.2.2.1 HB5.out); (case s4 => exact Kd.C_below HX.out.2.2.2.2.2.1 HB5.out); (case s9 => exact Kd.C_below HX.out.2.2.2.2.2.2.2 HB5.out); rintro e w6 ⟨rfl, hb⟩; have BK6 := As0.mk (bkb BK5.out hb); have HB6 := As0.mk (pwt HB5.out hb); clear hb; clear j0 j1 j2 j3 j4 j5 j6 j7 j8 j9 j10 j11; have j2 : w6.cell? ⟨wr.heap.size, 2, none⟩ = some (.slice A2 x.f2.length c2) := (bkc BK6.out 2).trans rfl))
       go_ret2
       exact ⟨rfl, pwt HB.out HB6.out⟩
      ·rw [if_neg hlx] at hst
       have HST := As0.mk hst
       clear hst
       have dx : decide (65536 < (x.f2.length : Int)) = false := decide_eq_false (by omega)
       clear hlx
       go_wp2_with (first | (go_at_call 53; (with_reducible refine (item_ranges.calls x.f0 x.f1 A2 c2 x.f2 A3 c3 x.f3 A4 c4 x.f4 x.f5 x.f6 x.f7 x.f8 A9 c9 x.f9 x.f10 x.f11 _ _ ?s2 HX.out.1 ?s3 HX.out.2.2.1 ?s4 HX.out.2.2.2.2.1 ?s9 HX.out.2.2.2.2.2.2.1 HRA.out).mono ?_); (case s2 => exact Kd.C_alloc (HX.out.2.1) _); (case s3 => exact Kd.C_alloc (HX.out.2.2.2.1) _); (case s4 => exact Kd.C_alloc (HX.out.2.2.2.2.2.1) _); (case s9 => exact Kd.C_alloc (HX.out.2.2.2.2.2.2.2) _); rintro e w5 ⟨rfl, hb⟩; have BK5 := As0.mk (bkb (heap_alloc_new wr (.cells #[.int .i64 x.f0, .int .i64 x.f1, .slice A2 x.f2.length c2, .slice A3 x.f3.length c3, .slice A4 x.f4.length c4, .int .i64 x.f5, .int .i64 x.f6, .int .i64 x.f7, .int .i64 x.f8, .slice A9 x.f9.length c9, .int .i64 x.f10, .bool x.f11] 68)) hb); have HB5 := As0.mk (pwt (bwa (Below.refl _ _) _) hb); clear hb; have j0 : w5.cell? ⟨wr.heap.size, 0, none⟩ = some (.int .i64 x.f0) := (bkc BK5.out 0).trans rfl; have j1 : w5.cell? ⟨wr.heap.size, 1, none⟩ = some (.int .i64 x.f1) := (bkc BK5.out 1).trans rfl; have j2 : w5.cell? ⟨wr.heap.size, 2, none⟩ = some (.slice A2 x.f2.length c2) := (bkc BK5.out 2).trans rfl; have j3 : w5.cell? ⟨wr.heap.size, 3, none⟩ = some (.slice A3 x.f3.length c3) := (bkc BK5.out 3).trans rfl; have j4 : w5.cell? ⟨wr.heap.size, 4, none⟩ = some (.slice A4 x.f4.length c4) := (bkc BK5.out 4).trans rfl; have j5 : w5.cell? ⟨wr.heap.size, 5, none⟩ = some (.int .i64 x.f5) := (bkc BK5.out 5).trans rfl; have j6 : w5.cell? ⟨wr.heap.size, 6, none⟩ = some (.int .i64 x.f6) := (bkc BK5.out 6).trans rfl; have j7 : w5.cell? ⟨wr.heap.size, 7, none⟩ = some (.int .i64 x.f7) := (bkc BK5.out 7).trans rfl; have j8 : w5.cell? ⟨wr.heap.size, 8, none⟩ = some (.int .i64 x.f8) := (bkc BK5.out 8).trans rfl; have j9 : w5.cell? ⟨wr.heap.size, 9, none⟩ = some (.slice A9 x.f9.length c9) := (bkc BK5.out 9).trans rfl; have j10 : w5.cell? ⟨wr.heap.size, 10, none⟩ = some (.int .i64 x.f10) := (bkc BK5.out 10).trans rfl; have j11 : w5.cell? ⟨wr.heap.size, 11, none⟩ = some (.bool x.f11) := (bkc BK5.out 11).trans rfl) | (go_at_call 54; (with_reducible refine (item_unused.calls 4 x.f0 x.f1 A2 c2 x.f2 A3 c3 x.f3 A4 c4 x.f4 x.f5 x.f6 x.f7 x.f8 A9 c9 x.f9 x.f10 x.f11 _ _ ?s2 HX.out.1 ?s3 HX.out.2.2.1 ?s4 HX.out.2.2.2.2.1 ?s9 HX.out.2.2.2.2.2.2.1 HUB.out).mono ?_); (case s2 => exact Kd.C_below HX.out.2.1 HB5.out); (case s3 => exact Kd.C_below HX.out.2.2.2.1 HB5.out); (case s4 => exact Kd.C_below HX.out.2.2.2.2.2.1 HB5.out); (case s9 => exact Kd.C_below HX.out.2.2.2.2.2.2.2 HB5.out); rintro e w6 ⟨rfl, hb⟩; have BK6 := As0.mk (bkb BK5.out hb); have HB6 := As0.mk (pwt HB5.out hb); clear hb; clear j0 j1 j2 j3 j4 j5 j6 j7 j8 j9 j10 j11; have j2 : w6.cell? ⟨wr.heap.size, 2, none⟩ = some (.slice A2 x.f2.length c2) := (bkc BK6.out 2).trans rfl))
       go_roundg kq1
       case measure => omega
       case rel => exact ⟨i + 1, congrArg _ hw.out.1, ⟨by have := HI.out; omega, by have := HI.out; omega⟩, ⟨by rw [hw.out.2]; exact HST.out⟩, ⟨bkb BKb.out HB6.out⟩, ⟨pwt HB.out HB6.out⟩⟩
def item_ready.f (l0 : List S68) (a1 : Int) : Option (Int × Int) := (item_Check.f l0).bind fun e => if e.1 = 0 then (if findI l0 a1 < 0 then some (0, 5) else some (findI l0 a1, 0)) else some (0, e.1)
set_option maxHeartbeats 16000000 in
set_option maxRecDepth 100000 in
theorem item_ready.calls (A0 : Option Addr) (c0 : Nat) (l0 : List S68) (a1 : Int) (r1 : Int) (r2 : Int) (w : World) (hr0 : Kd.C k68 w A0 l0.length l0) (hc0 : l0.length ≤ c0) (h : item_ready.f l0 a1 = some (r1, r2)) :
  Calls Tryz.prog 63 #[.slice A0 l0.length c0, .int .i64 a1] w fun e w' => e = .returned (.tuple #[.int .i64 r1, .int .i64 r2]) ∧ Below w.heap.size w w' := by
 obtain ⟨⟨e1, e2⟩, he, h⟩ := Option.bind_eq_some_iff.1 h
 have HR := As0.mk hr0
 have HC := As0.mk hc0
 have HE := As0.mk he
 clear hr0 hc0 he
 by_cases h0 : e1 = 0
 ·rw [if_pos h0] at h
  subst h0
  by_cases hf : findI l0 a1 < 0
  ·rw [if_pos hf] at h
   obtain ⟨rfl, rfl⟩ := Prod.mk.inj (Option.some.inj h)
   have df : decide (findI l0 a1 < 0) = true := decide_eq_true hf
   clear h hf
   go_enter Tryz.func63, Tryz.ntmps63
   go_wp2_with (first | (go_at_call 19; (with_reducible refine (item_Check.calls A0 c0 l0 0 e2 _ HR.out HC.out HE.out).mono ?_); rintro e w1 ⟨rfl, hb⟩; have HB := As0.mk hb; clear hb) | (go_at_call 55; (with_reducible refine (item_find.calls A0 c0 l0 a1 (findI l0 a1) _ (Kd.C_below HR.out HB.out) HC.out rfl).mono ?_); rintro e w2 ⟨rfl, hb⟩; have HB2 := As0.mk (pwt HB.out hb); clear hb))
   go_ret2
   exact ⟨rfl, HB2.out⟩
  ·rw [if_neg hf] at h
   obtain ⟨rfl, rfl⟩ := Prod.mk.inj (Option.some.inj h)
   have df : decide (findI l0 a1 < 0) = false := decide_eq_false hf
   clear h hf
   go_enter Tryz.func63, Tryz.ntmps63
   go_wp2_with (first | (go_at_call 19; (with_reducible refine (item_Check.calls A0 c0 l0 0 e2 _ HR.out HC.out HE.out).mono ?_); rintro e w1 ⟨rfl, hb⟩; have HB := As0.mk hb; clear hb) | (go_at_call 55; (with_reducible refine (item_find.calls A0 c0 l0 a1 (findI l0 a1) _ (Kd.C_below HR.out HB.out) HC.out rfl).mono ?_); rintro e w2 ⟨rfl, hb⟩; have HB2 := As0.mk (pwt HB.out hb); clear hb))
   go_ret2
   exact ⟨rfl, HB2.out⟩
 ·rw [if_neg h0] at h
  obtain ⟨rfl, rfl⟩ := Prod.mk.inj (Option.some.inj h)
  have d0 : decide (e1 = 0) = false := decide_eq_false h0
  have d1 : (e1 == 0) = false := by simpa using h0
  clear h h0
  go_enter Tryz.func63, Tryz.ntmps63
  go_wp2_with (first | (go_at_call 19; (with_reducible refine (item_Check.calls A0 c0 l0 e1 e2 _ HR.out HC.out HE.out).mono ?_); rintro e w1 ⟨rfl, hb⟩; have HB := As0.mk hb; clear hb))
  go_ret2
  exact ⟨rfl, HB.out⟩
set_option maxHeartbeats 8000000 in
set_option maxRecDepth 100000 in
theorem Index_int.calls (A0 : Option Addr) (c0 : Nat) (l0 : List Int) (a1 : Int) (w : World) (hr0 : Kd.C (Kd.int .i64) w A0 l0.length l0) :
  Calls Tryz.prog 158 #[.slice A0 l0.length c0, .int .i64 a1] w fun e w' => e = .returned (.int .i64 (idxOf (fun x => a1 == x) l0)) ∧ w' = w := by
 have HR0 := As0.mk hr0
 have hlen := As0.mk hr0.2.1
 clear hr0
 have HI : As0 (0 ≤ (0 : Int) ∧ (0 : Int) + (l0.length : Nat) = l0.length ∧ idxAux (fun x => a1 == x) (l0.drop (0 : Int).toNat) (0 : Int).toNat = idxOf (fun x => a1 == x) l0) := ⟨by omega, by omega, rfl⟩
 go_enter Tryz.func158, Tryz.ntmps158
 go_wp2
 go_loopg [8] l0.length (fun kq v8 w' => ∃ i : Int, v8 = .int .i64 i ∧ As0 (0 ≤ i ∧ i + kq = l0.length ∧ idxAux (fun x => a1 == x) (l0.drop i.toNat) i.toNat = idxOf (fun x => a1 == x) l0) ∧ w' = w)
 case atStart => exact ⟨0, rfl, HI, rfl⟩
 case round =>
  clear HI
  obtain ⟨i, rfl, HI, rfl⟩ := hrel
  cases gk with
  | zero =>
   have hge : decide (i < (l0.length : Int)) = false := by have := HI.out; simp; omega
   go_wp2
   go_ret
   exact ⟨by rw [← HI.out.2.2, idxOf_end _ l0 i.toNat (by have := HI.out; omega)]; rfl, rfl⟩
  | succ k1 =>
   have h0 : 0 ≤ i := by have := HI.out; omega
   have h1 : i < (l0.length : Int) := by have := HI.out; omega
   have hge : decide (i < (l0.length : Int)) = true := decide_eq_true h1
   have hg0 : decide (0 ≤ i) = true := decide_eq_true h0
   obtain ⟨ad, e0, hc⟩ := ReadsInt.at_ (Kd.reads_of_C (d := 0) HR0.out : ReadsInt _ .i64 A0 l0.length l0) i h0 h1
   cases e0
   have hx : As0 (l0[i.toNat]? = some (rd l0 i)) := ⟨by
    have hl : i.toNat < l0.length := by omega
    simp [rd, List.getElem?_eq_getElem hl, List.getD_eq_getElem?_getD]⟩
   generalize rd l0 i = x at *
   have hw : As0 (wrap64 (i + 1) = i + 1 ∧ (i + 1).toNat = i.toNat + 1) := ⟨by have := HI.out; have := hlen.out; unfold wrap64; omega, by omega⟩
   have hst := HI.out.2.2
   rw [idxOf_step _ l0 i.toNat x hx.out] at hst
   replace h0 := eq_true h0
   replace h1 := eq_true h1
   cases hpx : (a1 == x) with
   | true =>
    rw [hpx, if_pos rfl] at hst
    have HST := As0.mk hst
    clear hst
    have q1 : decide (a1 = x) = true := by simpa using hpx
    go_wp2
    go_ret
    exact ⟨by rw [← HST.out, Int.toNat_of_nonneg HI.out.1]; rfl, rfl⟩
   | false =>
    rw [hpx, if_neg (by decide)] at hst
    have HST := As0.mk hst
    clear hst
    have q1 : decide (a1 = x) = false := by simpa using hpx
    go_wp2
    go_roundg k1
    case measure => omega
    case rel => exact ⟨i + 1, congrArg _ hw.out.1, ⟨by have := HI.out; omega, by have := HI.out; omega, by rw [hw.out.2]; exact HST.out⟩, rfl⟩
set_option maxHeartbeats 8000000 in
set_option maxRecDepth 100000 in
theorem Contains_int.calls (A0 : Option Addr) (c0 : Nat) (l0 : List Int) (a1 : Int) (w : World) (hr0 : Kd.C (Kd.int .i64) w A0 l0.length l0) :
  Calls Tryz.prog 117 #[.slice A0 l0.length c0, .int .i64 a1] w fun e w' => e = .returned (.bool (l0.any fun x => a1 == x)) ∧ w' = w := by
 have HC := As0.mk (Index_int.calls A0 c0 l0 a1 w hr0)
 clear hr0
 rw [← idxOf_any]
 go_enter Tryz.func117, Tryz.ntmps117
 go_wp2_with (refine HC.out.mono ?_; rintro e w' ⟨rfl, rfl⟩)
 go_ret
 exact ⟨rfl, rfl⟩
theorem enters_116 : ∀ (args : Array Value) (W : World), (callFunc 116 args).run Tryz.prog W = .ok (.enter 116 args) W := enters_of Tryz.func116 (by kernel_rfl) rfl
def goO (l : List S68) (go : Int → List Int → Option (List Int)) : List Int → List Int → Option (List Int)
 | [], o => some o
 | id :: ids, o => (go (findI l id) o).bind fun o1 => goO l go ids o1
def walkO (l : List S68) : Nat → Int → List Int → Option (List Int)
 | 0, _, _ => none
 | f + 1, k, o => if (o.any fun x => k == x) = true then some o else if 0 ≤ k ∧ k < (l.length : Int) then (goO l (walkO l f) (rd_T68 l k).f3 o).bind fun o1 => if o1.length < 1000000 then some (o1 ++ [k]) else none else none
theorem goO_drop (l : List S68) (go : Int → List Int → Option (List Int)) (ids : List Int) (j : Nat) (id : Int) (o : List Int) (h : ids[j]? = some id) :
  goO l go (ids.drop j) o = (go (findI l id) o).bind fun o1 => goO l go (ids.drop (j + 1)) o1 := by
 obtain ⟨hl, he⟩ := List.getElem?_eq_some_iff.1 h
 rw [List.drop_eq_getElem_cons hl, he]
 rfl
structure OrderW (w0 w : World) (g1 g2 g3 : Nat) (A0 : Option Addr) (c0 : Nat) (l : List S68) (v : Value) (o : List Int) : Prop where
 b1 : w.heap[g1]? = some (.cells #[v] 39 (0, 0))
 b2 : w.heap[g2]? = some (.cells #[.slice A0 l.length c0] 35 (0, 0))
 b3 : w.heap[g3]? = some (.cells #[.func (.func 116) #[] #[.pointer (some ⟨g1, 0, none⟩), .pointer (some ⟨g2, 0, none⟩), .pointer (some ⟨g3, 0, none⟩)]] 153 (0, 0))
 row : (Kd.int .i64).R 3 w w0.heap.size (fun _ => True) v o
 ge : w0.heap.size ≤ g1
 below : Below w0.heap.size w0 w
theorem OrderW.keep {w0 w w1 : World} {g1 g2 g3 : Nat} {A0 : Option Addr} {c0 : Nat} {l : List S68} {v : Value} {o : List Int} (h : OrderW w0 w g1 g2 g3 A0 c0 l v o) (hb : Below w.heap.size w w1) : OrderW w0 w1 g1 g2 g3 A0 c0 l v o :=
 ⟨bkb h.b1 hb, bkb h.b2 hb, bkb h.b3 hb, Kd.R_below h.row hb, h.ge, pwt h.below hb⟩
theorem OrderW.lay {w0 w w1 : World} {g1 g2 g3 : Nat} {A0 : Option Addr} {c0 : Nat} {l : List S68} {v v1 : Value} {o o1 : List Int} (h : OrderW w0 w g1 g2 g3 A0 c0 l v o) (hg : w.grownBy w1 v.ownBlock) (hr : (Kd.int .i64).R 3 w1 w0.heap.size (fun _ => True) v1 o1) :
  OrderW w0 (w1.setCell ⟨g1, 0, none⟩ v1) g1 g2 g3 A0 c0 l v1 o1 ∧ w1.heap[g1]? = some (.cells #[v] 39 (0, 0)) := by
 have k : ∀ {g t : Nat} {cells : Array Value}, w.heap[g]? = some (.cells cells t (0, 0)) → 3 ≠ t → w1.heap[g]? = some (.cells cells t (0, 0)) := fun hb ht => blk_grown hb hg (Kd.R_ne h.row hb ht)
 have c1 := k h.b1 (by decide)
 have c2 := k h.b2 (by decide)
 have c3 := k h.b3 (by decide)
 refine ⟨⟨blk_put c1 0 v1 rfl, bkf c2 (ne_types c2 c1 (by decide)) _, bkf c3 (ne_types c3 c1 (by decide)) _, ?_, h.ge, ?_⟩, c1⟩
 ·refine Kd.R_mono (Kd.R_move (w1 := w1.setCell ⟨g1, 0, none⟩ v1) (Kd.R_bound hr) (fun q hq => ?_)) (fun _ _ => trivial)
  obtain ⟨_, _, _, e, he, cells, hc⟩ := hq
  refine Below.heap_setCell w1 _ v1 q (fun hqg => ?_)
  have hqg : q = g1 := hqg
  simp [Kd.int, Kd.scalar] at he
  subst he
  exact ne_types hc c1 (by decide) hqg
 ·exact bws (h.below.grown hg h.below.size (Kd.R_base h.row)) h.ge
def order_walk.T4 : Bool × List (List Nat × List Nat) := (true, [([], []), ([], []), ([], []), ([1, 2], [1, 2]), ([0, 3, 3], [0, 3])])
def order_walk.B4 : List Nat := [0, 0, 0, 6, 15]
theorem order_walk.tab4 : rtab .any (opsOf Tryz.f116 4) = order_walk.T4 := by kernel_rfl
theorem order_walk.bits4 : waitsOk order_walk.T4.2 order_walk.B4 = true := by kernel_rfl
set_option maxHeartbeats 16000000 in
set_option maxRecDepth 100000 in
theorem order_any (l : List S68) (w0 : World) (A0 : Option Addr) (c0 : Nat) (hr0 : Kd.C k68 w0 A0 l.length l) (hc0 : l.length ≤ c0) (f : Nat) : ∀ (k : Int) (vo : Value) (o r : List Int) (w : World) (g1 g2 g3 : Nat),
  OrderW w0 w g1 g2 g3 A0 c0 l vo o → walkO l f k o = some r →
  Calls Tryz.prog 116 #[.int .i64 k, .pointer (some ⟨g1, 0, none⟩), .pointer (some ⟨g2, 0, none⟩), .pointer (some ⟨g3, 0, none⟩)] w
   fun e w' => e = .returned (.tuple #[]) ∧ ∃ v', OrderW w0 w' g1 g2 g3 A0 c0 l v' r := by
 induction f with
 | zero => intro k vo o r w g1 g2 g3 _ h; cases h
 | succ f ih =>
  intro k vo o r w g1 g2 g3 hL h
  simp only [walkO] at h
  obtain ⟨Ao, co, rfl, hco, hro⟩ := Kd.R_reads hL.row
  have HL := As0.mk hL
  have HR := As0.mk hr0
  have IH := As0.mk ih
  have HC0 := As0.mk hc0
  have HRO := As0.mk hro
  clear ih hr0 hL hc0 hro hco
  have k1 : w.cell? ⟨g1, 0, none⟩ = some (.slice Ao o.length co) := (bkc HL.out.b1 0).trans rfl
  have k2 : w.cell? ⟨g2, 0, none⟩ = some (.slice A0 l.length c0) := (bkc HL.out.b2 0).trans rfl
  cases ha : (o.any fun x => k == x) with
  | true =>
   rw [if_pos ha] at h
   obtain rfl := Option.some.inj h
   have ANY := As0.mk ha
   clear ha h
   go_enter Tryz.func116, Tryz.ntmps116
   go_wp2_with (go_at_call 117; (with_reducible refine (Contains_int.calls Ao co o k _ HRO.out).mono ?_); rintro e w' ⟨rfl, rfl⟩; rw [ANY.out])
   first | go_end0 | ((try simp only [Exit.inBlock, Exit.then]); refine bodyPost_ret (results_none rfl _ _ _) rfl ?_)
   exact ⟨rfl, _, HL.out⟩
  | false =>
   rw [if_neg (by rw [ha]; decide)] at h
   have ANY := As0.mk ha
   clear ha
   split at h
   case isFalse => cases h
   case isTrue hk =>
   obtain ⟨hk0, hk1⟩ := hk
   obtain ⟨oz, hoz, h⟩ := Option.bind_eq_some_iff.1 h
   split at h
   case isFalse => cases h
   case isTrue hsz =>
   obtain rfl := Option.some.inj h
   clear h
   have HSZ := As0.mk hsz
   clear hsz
   obtain ⟨ad, A2, c2, A3, c3, A4, c4, A9, c9, e0, _, _, _, hx3, _, _, _, _, _, _, _, _, _, _, hl3, hi3, _⟩ := at_T68 HR.out k hk0 hk1
   cases e0
   replace hx3 := (HL.out.below.cell (World.block_lt_of_cell? w0 _ hx3)).trans hx3
   have HX := As0.mk hi3
   clear hl3 hi3
   have H := As0.mk hoz
   clear hoz
   generalize (rd_T68 l k).f3 = ids at *
   have hk0b : decide (0 ≤ k) = true := decide_eq_true hk0
   have hk1b : decide (k < (l.length : Int)) = true := decide_eq_true hk1
   have hen := enters_116
   replace hk0 := eq_true hk0
   replace hk1 := eq_true hk1
   go_enter Tryz.func116, Tryz.ntmps116
   go_wp2_with (go_at_call 117; (with_reducible refine (Contains_int.calls Ao co o k _ HRO.out).mono ?_); rintro e w' ⟨rfl, rfl⟩; rw [ANY.out])
   have HI : As0 (0 ≤ (0 : Int) ∧ (0 : Int) + (ids.length : Nat) = ids.length ∧ goO l (walkO l f) (ids.drop (0 : Int).toNat) o = some oz) := ⟨by omega, by omega, H.out⟩
   have hlen := As0.mk HX.out.2.1
   clear k1 k2 hx3
   go_loopg [16] ids.length (fun kq v16 w' => ∃ (j : Int) (vo : Value) (ob : List Int), v16 = .int .i64 j ∧ As0 (0 ≤ j ∧ j + kq = ids.length ∧ goO l (walkO l f) (ids.drop j.toNat) ob = some oz) ∧ As0 (OrderW w0 w' g1 g2 g3 (some ad) c0 l vo ob))
   case atStart => exact ⟨0, _, o, rfl, HI, HL⟩
   case round =>
    clear HI HL H
    obtain ⟨j, vo, ob, rfl, HI, HL⟩ := hrel
    cases gk with
    | zero =>
     have hge : decide (j < (ids.length : Int)) = false := by have := HI.out; simp; omega
     have hr : oz = ob := by
      have := HI.out.2.2
      rw [List.drop_eq_nil_of_le (by have := HI.out; omega)] at this
      exact (Option.some.inj this).symm
     subst hr
     obtain ⟨Av, cv, rfl⟩ := Kd.R_slice HL.out.row
     have k1 : wr.cell? ⟨g1, 0, none⟩ = some (.slice Av oz.length cv) := (bkc HL.out.b1 0).trans rfl
     go_wp2_with (at_builtin; refine Kd.R_append (Kd.int .i64) (w0 := w0) w0.heap.size rfl (.tmp 26) (.tmp 28) 39 3 (.int .i64 0) 8 rfl Tryz.underlying39 info3 rfl (by decide) (by decide) (.slice Av oz.length cv) oz k [.int .i64 k] (fun _ => True) (fun _ => False) rfl rfl rfl (fun _ h => h.elim) (fun _ _ => trivial) HL.out.row HL.out.below HL.out.below.size (by have := HSZ.out; omega) ?_; intro v1 w1 hv1 hb1 hg1 hat; have HL9 := HL.out.lay hg1 hv1; have k9 : w1.cell? ⟨g1, 0, none⟩ = some (.slice Av oz.length cv) := (bkc HL9.2 0).trans rfl; have f9 := bkz HL9.2 0; have HL8 := As0.mk HL9.1; obtain ⟨A9, c9, rfl⟩ := Kd.R_slice hv1; clear HL9 hv1 hb1 hg1 hat k1)
     first | go_end0 | ((try simp only [Exit.inBlock, Exit.then]); refine bodyPost_ret (results_none rfl _ _ _) rfl ?_)
     exact ⟨rfl, .slice A9 (oz.length + 1) c9, by have h8 := HL8.out; rw [show (oz ++ [k]).length = oz.length + 1 by simp] at h8; exact h8⟩
    | succ kq1 =>
     have h0 : 0 ≤ j := by have := HI.out; omega
     have h1 : j < (ids.length : Int) := by have := HI.out; omega
     have hge : decide (j < (ids.length : Int)) = true := decide_eq_true h1
     have hg0 : decide (0 ≤ j) = true := decide_eq_true h0
     obtain ⟨ad3, e3, hc⟩ := ReadsInt.at_ (Kd.reads_of_C (d := 0) HX.out : ReadsInt w0 .i64 A3 ids.length ids) j h0 h1
     cases e3
     replace hc := (HL.out.below.cell (World.block_lt_of_cell? w0 _ hc)).trans hc
     have hx : ids[j.toNat]? = some (rd ids j) := by
      have hl : j.toNat < ids.length := by omega
      simp [rd, List.getElem?_eq_getElem hl, List.getD_eq_getElem?_getD]
     have hst := HI.out.2.2
     rw [goO_drop l _ ids j.toNat (rd ids j) ob hx] at hst
     clear hx
     generalize rd ids j = id at *
     obtain ⟨o1, hw1, hst⟩ := Option.bind_eq_some_iff.1 hst
     have W1 := As0.mk hw1
     have ST := As0.mk hst
     clear hw1 hst
     have hw : As0 (wrap64 (j + 1) = j + 1 ∧ (j + 1).toNat = j.toNat + 1) := ⟨by have := HI.out; have := hlen.out; unfold wrap64; omega, by omega⟩
     replace h0 := eq_true h0
     replace h1 := eq_true h1
     go_wp2
     have HLd : As0 (OrderW w0 wr.drew g1 g2 g3 (some ad) c0 l vo ob) := ⟨HL.out.keep (bwd (Below.refl _ _))⟩
     refine start_ (n := 5) (S := fun w' => w'.cell? ⟨g2, 0, none⟩ = some (.slice (some ad) l.length c0) ∧ w'.cell? ⟨g3, 0, none⟩ = some (.func (.func 116) #[] #[.pointer (some ⟨g1, 0, none⟩), .pointer (some ⟨g2, 0, none⟩), .pointer (some ⟨g3, 0, none⟩)])) (ds := []) #[false, false, false, false, false] (by kernel_rfl) rfl rfl ⟨(bkc HLd.out.b2 0).trans rfl, (bkc HLd.out.b3 0).trans rfl⟩ (fun hHeld => ?_); refine with_tabW order_walk.tab4 order_walk.bits4 (fun HT_ HW_ => ?_)
     clear HL
     have HL := HLd
     clear HLd
     generalize wr.drew = wd at HL hHeld ⊢
     refine pure_ (i := 2) (N := some 22) (v := ?_) (a' := ?_) #[false, false, true, false, false] rfl rfl (any_of HT_.out (by kernel_rfl)) (fun _ _ _ h => h) (Or.inl ⟨by rfl, ?_⟩) ?_ ?_
     rotate_left
     ·intro w'
      go_simp
      with_reducible rfl
     rotate_left
     ·simp only [Act.put, List.setIfInBounds_toArray, List.set_cons_zero, List.set_cons_succ, i64_w, i32_w]
      rfl
     refine take_ (i := 0) (N := some 20) (v := ?_) (a' := ?_) #[true, false, true, false, false] rfl rfl (take_ofW HT_.out HW_.out (by kernel_rfl)) (fun _ _ _ h => h) (Or.inl ⟨by rfl, ?_⟩) hHeld ?_ ?_
     rotate_left
     ·rintro w' ⟨s0, s1⟩
      go_simp
      with_reducible rfl
     rotate_left
     ·simp only [Act.put, List.setIfInBounds_toArray, List.set_cons_zero, List.set_cons_succ, i64_w, i32_w]
      rfl
     refine take_ (i := 1) (N := some 21) (v := ?_) (a' := ?_) #[true, true, true, false, false] rfl rfl (take_ofW HT_.out HW_.out (by kernel_rfl)) (fun _ _ _ h => h) (Or.inl ⟨by rfl, ?_⟩) hHeld ?_ ?_
     rotate_left
     ·rintro w' ⟨s0, s1⟩
      go_simp
      with_reducible rfl
     rotate_left
     ·simp only [Act.put, List.setIfInBounds_toArray, List.set_cons_zero, List.set_cons_succ, i64_w, i32_w]
      rfl
     refine one_ (i := 3) (N := some 23) #[true, true, true, true, false] rfl rfl (one_of HT_.out (by kernel_rfl)) (by decide) (fun K hK => ?_)
     refine goes_ Tryz.func55 (by kernel_rfl) rfl #[.slice (some ad) l.length c0, .int .i64 id] (by rfl) rfl rfl (by (try simp only [List.map_toArray, List.map_cons, List.map_nil]); first | done | rfl) ?_
     with_reducible refine (item_find.calls (some ad) c0 l id (findI l id) _ (Kd.C_below HR.out HL.out.below) HC0.out rfl).mono ?_
     rintro e w5 ⟨rfl, hb5⟩
     refine ⟨_, rfl, ?_⟩
     have HL5 := As0.mk (HL.out.keep hb5)
     clear hb5
     refine hK.out _ _ ⟨(bkc HL5.out.b2 0).trans rfl, (bkc HL5.out.b3 0).trans rfl⟩ (fun hHeld => ?_)
     clear hK K
     refine norm_ (a' := ?_) ?_ ?_
     rotate_left
     ·show Act.put _ (some 23) _ = _
      simp only [Act.put, List.setIfInBounds_toArray, List.set_cons_zero, List.set_cons_succ, i64_w, i32_w]
      rfl
     refine one_ (i := 4) (N := some 24) #[true, true, true, true, true] rfl rfl (one_of HT_.out (by kernel_rfl)) (by decide) (fun K hK => ?_)
     refine call_ 116 #[.int .i64 (findI l id), .pointer (some ⟨g1, 0, none⟩), .pointer (some ⟨g2, 0, none⟩), .pointer (some ⟨g3, 0, none⟩)] (by rfl) rfl (by go_simp) ?_
     with_reducible refine (IH.out (findI l id) vo ob o1 _ g1 g2 g3 HL5.out W1.out).mono ?_
     rintro e w6 ⟨rfl, v6, hL6⟩
     refine ⟨_, rfl, ?_⟩
     have HL6 := As0.mk hL6
     clear hL6
     refine hK.out _ _ ⟨(bkc HL6.out.b2 0).trans rfl, (bkc HL6.out.b3 0).trans rfl⟩ (fun hHeld => ?_)
     clear hK K
     refine norm_ (a' := ?_) ?_ ?_
     rotate_left
     ·show Act.put _ (some 24) _ = _
      simp only [Act.put, List.setIfInBounds_toArray, List.set_cons_zero, List.set_cons_succ, i64_w, i32_w]
      rfl
     refine done_ (done_of HT_.out (by kernel_rfl)) ?_
     go_wp2
     go_roundg kq1
     case measure => omega
     case rel => exact ⟨j + 1, v6, o1, congrArg _ hw.out.1, ⟨by have := HI.out; omega, by have := HI.out; omega, by rw [hw.out.2]; exact ST.out⟩, HL6⟩
def item_order.f (l0 : List S68) (a1 : Int) : Option (List Int) := walkO l0 (l0.length + 1) a1 []
set_option maxHeartbeats 16000000 in
set_option maxRecDepth 100000 in
theorem item_order.calls (A0 : Option Addr) (c0 : Nat) (l0 : List S68) (a1 : Int) (r : List Int) (w : World) (hr0 : Kd.C k68 w A0 l0.length l0) (hc0 : l0.length ≤ c0) (h : item_order.f l0 a1 = some r) :
  Calls Tryz.prog 64 #[.slice A0 l0.length c0, .int .i64 a1] w fun e w' => ∃ v0_ : Value, e = .returned (v0_) ∧ Kd.R (Kd.int .i64) 3 w' w.heap.size (fun _ => True) v0_ r ∧ Below w.heap.size w w' := by
 have HR := As0.mk hr0
 have HC0 := As0.mk hc0
 have HW := As0.mk h
 unfold item_order.f at HW
 clear h hr0 hc0
 have hmf := makeFunc_run
 have hen := enters_116
 go_enter Tryz.func64, Tryz.ntmps64
 go_wp2_with (go_at_call 116; (with_reducible refine (order_any l0 w A0 c0 HR.out HC0.out _ a1 (.slice none 0 0) [] r _ _ _ _ ?hL HW.out).mono ?_); (case hL => exact ⟨by (have := bka (heap_alloc_new (w.alloc (.cells #[.slice A0 l0.length c0] 35)) (.cells #[.slice none 0 0] 39)) (.cells #[.func (.func 116) #[] #[.pointer (some ⟨w.heap.size + 1, 0, none⟩), .pointer (some ⟨w.heap.size, 0, none⟩), .pointer (some ⟨w.heap.size + 2, 0, none⟩)]] 153); simpa [World.size_alloc] using this), bka (bka (heap_alloc_new w _) _) _, by (have := heap_alloc_new ((w.alloc (.cells #[.slice A0 l0.length c0] 35)).alloc (.cells #[.slice none 0 0] 39)) (.cells #[.func (.func 116) #[] #[.pointer (some ⟨w.heap.size + 1, 0, none⟩), .pointer (some ⟨w.heap.size, 0, none⟩), .pointer (some ⟨w.heap.size + 2, 0, none⟩)]] 153); simpa [World.size_alloc] using this), Kd.R_nil _ _ _ _ _, by omega, bwa (bwa (bwa (Below.refl _ _) _) _) _⟩); rintro e w' ⟨rfl, v', hL⟩; have HL := As0.mk hL; obtain ⟨Av, cv, rfl⟩ := Kd.R_slice hL.row; clear hL; have k9 : w'.cell? ⟨w.heap.size + 1, 0, none⟩ = some (.slice Av r.length cv) := (bkc HL.out.b1 0).trans rfl)
 go_ret
 exact ⟨_, rfl, HL.out.row, HL.out.below⟩
set_option maxHeartbeats 16000000 in
set_option maxRecDepth 100000 in
theorem made_over (x : S68) (hx : x.f1 = 2) (A2 : Option Addr) (c2 : Nat) (A3 : Option Addr) (c3 : Nat) (A4 : Option Addr) (c4 : Nat) (A9 : Option Addr) (c9 : Nat) (w : World) :
  Calls Tryz.prog 79 #[.agg #[.int .i64 x.f0, .int .i64 x.f1, .slice A2 x.f2.length c2, .slice A3 x.f3.length c3, .slice A4 x.f4.length c4, .int .i64 x.f5, .int .i64 x.f6, .int .i64 x.f7, .int .i64 x.f8, .slice A9 x.f9.length c9, .int .i64 x.f10, .bool x.f11]] w fun e w' => e = .returned (.iface 157 (.agg #[.int .i64 x.f0, .int .i64 x.f1, .slice A2 x.f2.length c2, .slice A3 x.f3.length c3, .slice A4 x.f4.length c4, .int .i64 x.f5, .int .i64 x.f6, .int .i64 x.f7, .int .i64 x.f8, .slice A9 x.f9.length c9, .int .i64 x.f10, .bool x.f11])) ∧ Below w.heap.size w w' := by
 have hu68 := Tryz.underlying68
 have q0 : (x.f1 == 0) = false := by rw [hx]; rfl
 have q1 : (x.f1 == 1) = false := by rw [hx]; rfl
 have q2 : (x.f1 == 2) = true := by rw [hx]; rfl
 clear hx
 go_enter Tryz.func79, Tryz.ntmps79
 go_wp2_with (first | ((with_reducible refine gdt (N := 1) rfl ?_); refine bxe ?hg (N := 1) ?hd (cs := #[.int .i64 x.f0, .int .i64 x.f1, .slice A2 x.f2.length c2, .slice A3 x.f3.length c3, .slice A4 x.f4.length c4, .int .i64 x.f5, .int .i64 x.f6, .int .i64 x.f7, .int .i64 x.f8, .slice A9 x.f9.length c9, .int .i64 x.f10, .bool x.f11]) (t := 68) ?hr ?_; (case hd => rfl); (case hg => rfl); (case hr => first | (go_simp; done) | (go_simp; rfl)); intro g1 hgg1 w2 hboxg1 hbg1; have BKg1 := As0.mk hboxg1; have HB2 := As0.mk hbg1; have k0 : w2.cell? ⟨g1, 0, none⟩ = some (.int .i64 x.f0) := (bkc BKg1.out 0).trans rfl; have k1 : w2.cell? ⟨g1, 1, none⟩ = some (.int .i64 x.f1) := (bkc BKg1.out 1).trans rfl; have k2 : w2.cell? ⟨g1, 2, none⟩ = some (.slice A2 x.f2.length c2) := (bkc BKg1.out 2).trans rfl; have k3 : w2.cell? ⟨g1, 3, none⟩ = some (.slice A3 x.f3.length c3) := (bkc BKg1.out 3).trans rfl; have k4 : w2.cell? ⟨g1, 4, none⟩ = some (.slice A4 x.f4.length c4) := (bkc BKg1.out 4).trans rfl; have k5 : w2.cell? ⟨g1, 5, none⟩ = some (.int .i64 x.f5) := (bkc BKg1.out 5).trans rfl; have k6 : w2.cell? ⟨g1, 6, none⟩ = some (.int .i64 x.f6) := (bkc BKg1.out 6).trans rfl; have k7 : w2.cell? ⟨g1, 7, none⟩ = some (.int .i64 x.f7) := (bkc BKg1.out 7).trans rfl; have k8 : w2.cell? ⟨g1, 8, none⟩ = some (.int .i64 x.f8) := (bkc BKg1.out 8).trans rfl; have k9 : w2.cell? ⟨g1, 9, none⟩ = some (.slice A9 x.f9.length c9) := (bkc BKg1.out 9).trans rfl; have k10 : w2.cell? ⟨g1, 10, none⟩ = some (.int .i64 x.f10) := (bkc BKg1.out 10).trans rfl; have k11 : w2.cell? ⟨g1, 11, none⟩ = some (.bool x.f11) := (bkc BKg1.out 11).trans rfl; clear hboxg1 hbg1 hgg1))
 go_ret
 exact ⟨rfl, HB2.out⟩
def bits_Mul64.f (a0 : Int) (a1 : Int) : Option (Int × Int) := some (IntKind.u64.wrap ((IntKind.u64.wrap ((IntKind.u64.wrap ((a0 / 4294967296) * (a1 / 4294967296))) + ((IntKind.u64.wrap ((IntKind.u64.wrap ((a0 / 4294967296) * (Go.bits .and .u64 a1 4294967295))) + ((IntKind.u64.wrap ((Go.bits .and .u64 a0 4294967295) * (Go.bits .and .u64 a1 4294967295))) / 4294967296))) / 4294967296))) + ((IntKind.u64.wrap ((Go.bits .and .u64 (IntKind.u64.wrap ((IntKind.u64.wrap ((a0 / 4294967296) * (Go.bits .and .u64 a1 4294967295))) + ((IntKind.u64.wrap ((Go.bits .and .u64 a0 4294967295) * (Go.bits .and .u64 a1 4294967295))) / 4294967296))) 4294967295) + (IntKind.u64.wrap ((Go.bits .and .u64 a0 4294967295) * (a1 / 4294967296))))) / 4294967296)), IntKind.u64.wrap (a0 * a1))
set_option maxHeartbeats 8000000 in
set_option maxRecDepth 100000 in
theorem bits_Mul64.calls (a0 : Int) (a1 : Int) (r1 : Int) (r2 : Int) (w : World) (h : bits_Mul64.f a0 a1 = some (r1, r2)) :
  Calls Tryz.prog 295 #[.int .u64 a0, .int .u64 a1] w fun e w' => e = .returned (.tuple #[.int .u64 r1, .int .u64 r2]) ∧ Drawn0 w w' := by
 have H : (some (IntKind.u64.wrap ((IntKind.u64.wrap ((IntKind.u64.wrap ((a0 / 4294967296) * (a1 / 4294967296))) + ((IntKind.u64.wrap ((IntKind.u64.wrap ((a0 / 4294967296) * (Go.bits .and .u64 a1 4294967295))) + ((IntKind.u64.wrap ((Go.bits .and .u64 a0 4294967295) * (Go.bits .and .u64 a1 4294967295))) / 4294967296))) / 4294967296))) + ((IntKind.u64.wrap ((Go.bits .and .u64 (IntKind.u64.wrap ((IntKind.u64.wrap ((a0 / 4294967296) * (Go.bits .and .u64 a1 4294967295))) + ((IntKind.u64.wrap ((Go.bits .and .u64 a0 4294967295) * (Go.bits .and .u64 a1 4294967295))) / 4294967296))) 4294967295) + (IntKind.u64.wrap ((Go.bits .and .u64 a0 4294967295) * (a1 / 4294967296))))) / 4294967296)), IntKind.u64.wrap (a0 * a1))) = some (r1, r2) := h
 clear h
 simp only [Option.some.injEq, Prod.mk.injEq] at H
 obtain ⟨rfl, rfl⟩ := H
 go_enter Tryz.func295, Tryz.ntmps295
 go_wp2
 go_ret2
 exact ⟨by first | rfl | (simp; done) | (simp [*]; done), by repeat (first | exact Drawn0.refl _ | apply Drawn0.step)⟩
def bits_Mul.f (a0 : Int) (a1 : Int) : Option (Int × Int) := (bits_Mul64.f a0 a1).bind fun bt840 => (some (bt840.1, bt840.2))
set_option maxHeartbeats 8000000 in
set_option maxRecDepth 100000 in
theorem bits_Mul.calls (a0 : Int) (a1 : Int) (r1 : Int) (r2 : Int) (w : World) (h : bits_Mul.f a0 a1 = some (r1, r2)) :
  Calls Tryz.prog 275 #[.int .u64 a0, .int .u64 a1] w fun e w' => e = .returned (.tuple #[.int .u64 r1, .int .u64 r2]) ∧ Drawn0 w w' := by
 have H : ((bits_Mul64.f a0 a1).bind fun bt840 => (some (bt840.1, bt840.2))) = some (r1, r2) := h
 clear h
 replace H := Option.bind_eq_some_iff.mp H
 obtain ⟨⟨t840, t841⟩, A30, H⟩ := H
 replace H : (some (t840, t841)) = some (r1, r2) := H
 have A3 := As0.mk A30
 clear A30
 simp only [Option.some.injEq, Prod.mk.injEq] at H
 obtain ⟨rfl, rfl⟩ := H
 go_enter Tryz.func275, Tryz.ntmps275
 go_wp2_with (first | ((with_reducible refine gate_callee (f := 295) rfl ?_); refine goesL_ (some 25) rfl rfl Tryz.func295 (by kernel_rfl) rfl #[.int .u64 a0, .int .u64 a1] rfl (by (try simp only [List.map_toArray, List.map_cons, List.map_nil]); first | done | rfl | (simp only [List.length_drop, List.length_take]; rfl)) ?_; (with_reducible refine (bits_Mul64.calls a0 a1 t840 t841 _ A3.out).mono ?_); rintro e w' ⟨rfl, ⟨nd, rfl⟩⟩; refine ⟨_, rfl, ?_⟩))
 go_ret2
 exact ⟨by first | rfl | (simp; done) | (simp [*]; done), by repeat (first | exact Drawn0.refl _ | apply Drawn0.step)⟩
theorem mul_one_u64 (n : Nat) (hn : n ≤ 1000000) : bits_Mul.f 1 (n : Int) = some (0, (n : Int)) := by
 have h1 : Go.bits .and .u64 1 4294967295 = 1 := by decide +kernel
 have h2 : Go.bits .and .u64 (n : Int) 4294967295 = ((n &&& 4294967295 : Nat) : Int) := bits_and_u64_nat n 4294967295 (by omega) (by decide)
 have h3 : n &&& 4294967295 ≤ n := Nat.and_le_left
 obtain ⟨m, hm⟩ : ∃ m, m = n &&& 4294967295 := ⟨_, rfl⟩
 rw [← hm] at h2 h3
 have w : ∀ z : Int, 0 ≤ z → z ≤ 10000000 → IntKind.u64.wrap z = z := fun z h0 h1 => by
  simp [IntKind.wrap, IntKind.bits, IntKind.signed]
  omega
 simp only [bits_Mul.f, bits_Mul64.f, h1, h2, Option.bind_some]
 have e1 : (1 : Int) / 4294967296 = 0 := by decide
 have e2 : (n : Int) / 4294967296 = 0 := by omega
 have e3 : (m : Int) / 4294967296 = 0 := by omega
 have w0 : IntKind.u64.wrap 0 = 0 := by decide
 have h4 : Go.bits .and .u64 0 4294967295 = 0 := by decide +kernel
 simp only [e1, e2, Int.zero_mul, Int.mul_zero, Int.one_mul, w0, Int.zero_add, w (m : Int) (by omega) (by omega), e3, h4, w (n : Int) (by omega) (by omega)]
 rfl
theorem rep_set (v z : Int) (m N : Nat) (h : m < N) : (List.replicate m v ++ List.replicate (N - m) z).set m v = List.replicate (m + 1) v ++ List.replicate (N - (m + 1)) z := by
 rw [List.set_append, List.length_replicate, if_neg (by omega), Nat.sub_self, show N - m = (N - (m + 1)) + 1 by omega, List.replicate_succ, List.set_cons_zero, List.replicate_succ']
 simp
theorem rep_fill (base : Nat) (ok : Nat → Prop) (g n cap : Nat) (v : Int) (N : Nat) : ∀ (k m : Nat) (w : World), m + k ≤ N → (Kd.int .i64).R 3 w base ok (.slice (some ⟨g, 0, none⟩) n cap) (List.replicate m v ++ List.replicate (N - m) 0) →
  (Kd.int .i64).R 3 (w.setCells g m (List.replicate k (.int .i64 v))) base ok (.slice (some ⟨g, 0, none⟩) n cap) (List.replicate (m + k) v ++ List.replicate (N - (m + k)) 0) ∧ w.grownBy (w.setCells g m (List.replicate k (.int .i64 v))) (some g)
 | 0, m, w, _, h => ⟨h, grown_refl _ _⟩
 | k + 1, m, w, hk, h => by
  have hp := Kd.R_putg h (m : Int) v
  rw [Int.toNat_natCast, rep_set v 0 m N (by omega)] at hp
  have h2 := rep_fill base ok g n cap v N k (m + 1) _ (by omega) hp.1
  rw [show m + 1 + k = m + (k + 1) by omega] at h2
  refine ⟨h2.1, ⟨h2.2.os.trans hp.2.os, h2.2.tape.trans hp.2.tape, h2.2.output.trans hp.2.output, Nat.le_trans hp.2.size h2.2.size, fun q hq hne => (h2.2.block q (Nat.lt_of_lt_of_le hq hp.2.size) hne).trans (hp.2.block q hq hne)⟩⟩
def slices_Repeat_int_int.f (l0 : List Int) (a1 : Int) : Option (List Int) := match l0 with
 | [v] => if 1 ≤ a1 ∧ a1 ≤ 1000000 then some (List.replicate a1.toNat v) else none
 | _ => none
def rep_walk.T9 : Bool × List (List Nat × List Nat) := (true, [([], []), ([], []), ([], []), ([1, 2], [1, 2]), ([], []), ([], []), ([4, 5], [4, 5]), ([3, 6], [3, 6]), ([0, 7], [0, 7]), ([8, 7, 0, 1, 2, 3, 4, 5, 6, 7, 8], [0, 2, 5, 8])])
def rep_walk.B9 : List Nat := [0, 0, 0, 6, 0, 0, 48, 126, 255, 511]
theorem rep_walk.tab9 : rtab .any (opsOf Tryz.f260 9) = rep_walk.T9 := by kernel_rfl
theorem rep_walk.bits9 : waitsOk rep_walk.T9.2 rep_walk.B9 = true := by kernel_rfl
set_option maxHeartbeats 16000000 in
set_option maxRecDepth 100000 in
theorem slices_Repeat_int_int.calls (A0 : Option Addr) (c0 : Nat) (l0 : List Int) (a1 : Int) (r : List Int) (w : World) (hr0 : Kd.C (Kd.int .i64) w A0 l0.length l0) (hc0 : l0.length ≤ c0) (h : slices_Repeat_int_int.f l0 a1 = some r) :
  Calls Tryz.prog 260 #[.slice A0 l0.length c0, .int .i64 a1] w fun e w' => ∃ v0_ : Value, e = .returned (v0_) ∧ Kd.R (Kd.int .i64) 3 w' w.heap.size (fun _ => True) v0_ r ∧ Below w.heap.size w w' := by
 unfold slices_Repeat_int_int.f at h
 split at h
 case h_2 => cases h
 case h_1 v =>
 split at h
 case isFalse => cases h
 case isTrue hk =>
 obtain rfl := Option.some.inj h
 obtain ⟨N, rfl⟩ : ∃ N : Nat, a1 = (N : Int) := ⟨a1.toNat, by omega⟩
 rw [Int.toNat_natCast]
 have HK : As0 (1 ≤ N ∧ N ≤ 1000000) := ⟨by omega⟩
 have HR := As0.mk hr0
 have HM := As0.mk (mul_one_u64 N HK.out.2)
 have q0 : decide ((N : Int) < 0) = false := decide_eq_false (by omega)
 have q1 : IntKind.u64.wrap (N : Int) = (N : Int) := by have := HK.out; simp [IntKind.wrap, IntKind.bits, IntKind.signed]; omega
 have q2 : IntKind.i64.wrap (N : Int) = (N : Int) := by have := HK.out; simp [IntKind.wrap, IntKind.bits, IntKind.signed]; omega
 have q3 : decide (9223372036854775807 < (N : Int)) = false := decide_eq_false (by omega)
 clear hk hr0 hc0 h
 simp only [List.length_singleton] at *
 go_enter Tryz.func260, Tryz.ntmps260
 go_wp2_with (first | (go_at_call 275; (with_reducible refine (bits_Mul.calls 1 (N : Int) 0 (N : Int) _ HM.out).mono ?_); rintro e w' ⟨rfl, ⟨nd, rfl⟩⟩) | ((with_reducible refine gdt (N := 30) rfl ?_); refine Kd.R_make (Kd.int .i64) _ 3 rfl (N := 30) rfl 39 _ _ rfl (N : Int) rfl rfl Tryz.underlying39 (.int .i64 0) 8 info3 rfl (by decide) (by omega) 0 (ok := fun _ => True) (okp := fun _ => True) rfl (fun _ hk => hk) trivial (by omega) (by have := HK.out; omega) (pwN (Below.refl w.heap.size w) nd) (Nat.le_refl _) ?_; intro v1 w1 hv1 hb1 _ _; rw [Int.toNat_natCast] at hv1; obtain ⟨g, cap, rfl, hbg, hgl, cells, hcells⟩ := Kd.R_form hv1 (by rw [List.length_replicate]; have := HK.out; omega); rw [List.length_replicate] at hv1; simp only [List.length_replicate]; have HV := As0.mk hv1; have HG := As0.mk (And.intro hbg (Kd.R_reads' hv1).2.1); have HB := As0.mk hb1; clear hv1 hb1 hbg hgl hcells) | ((with_reducible refine gdt (N := 33) rfl ?_); go_loud (refine Kd.R_copy (0 : Int) (w0 := w) w.heap.size rfl (.tmp 31) (.tmp 32) 39 39 3 rfl Tryz.underlying39 (by kernel_rfl) (.slice (some ⟨g, 0, none⟩) N cap) (List.replicate N 0) [v] A0 1 c0 (fun _ => True) rfl rfl HV.out (Kd.C_below HR.out HB.out) HB.out HB.out.size ?_; intro w2 hv2 hb2 _; have e0 : min 1 (List.replicate N (0 : Int)).length = 1 := (by rw [List.length_replicate]; have := HK.out; omega); rw [e0] at hv2; rw [e0]; have HV2 := As0.mk (show (Kd.int .i64).R 3 w2 w.heap.size (fun _ => True) (.slice (some ⟨g, 0, none⟩) N cap) (List.replicate 1 v ++ List.replicate (N - 1) 0) from (by rw [← List.drop_replicate]; exact hv2)); have HB2 := As0.mk hb2; clear hv2 hb2 e0)))
 go_loopg [8] N (fun kq v8 w' => ∃ (m : Nat), v8 = .int .i64 (m : Int) ∧ As0 (1 ≤ m ∧ m ≤ N ∧ N ≤ m + kq) ∧ As0 ((Kd.int .i64).R 3 w' w.heap.size (fun _ => True) (.slice (some ⟨g, 0, none⟩) N cap) (List.replicate m v ++ List.replicate (N - m) 0)) ∧ As0 (Below w.heap.size w w'))
 case atStart => exact ⟨1, rfl, ⟨by omega, HK.out.1, by omega⟩, HV2, HB2⟩
 case round =>
  clear HV HB HV2 HB2
  obtain ⟨m, rfl, HI, HV, HB⟩ := hrel
  by_cases hmn : m < N
  ·cases gk with
   | zero => exact absurd HI.out (by omega)
   | succ kq1 =>
   have hlt : decide ((m : Int) < (N : Int)) = true := decide_eq_true (by omega)
   have hlt' : decide (m < N) = true := decide_eq_true hmn
   obtain ⟨k, hkk⟩ : ∃ k, k = min m (N - m) := ⟨_, rfl⟩
   have HKK : As0 (k = min m (N - m) ∧ m + k ≤ N ∧ 1 ≤ k) := ⟨hkk, by omega, by have := HI.out; omega⟩
   have hw : wrap64 ((m : Int) + (k : Int)) = ((m + k : Nat) : Int) := by have := HKK.out; have := HK.out; unfold wrap64; omega
   have HF := As0.mk (rep_fill w.heap.size (fun _ => True) g N cap v N k m wr.drew HKK.out.2.1 (Kd.R_drew HV.out))
   have hcap := HG.out.2
   have s0 : decide (0 ≤ (m : Int)) = true := decide_eq_true (by omega)
   have s1 : decide ((m : Int) ≤ (N : Int)) = true := decide_eq_true (by omega)
   have s2 : decide ((m : Int) ≤ (cap : Int)) = true := decide_eq_true (by omega)
   have s3 : decide ((N : Int) ≤ (cap : Int)) = true := decide_eq_true (by omega)
   have s4 : decide (0 ≤ (N : Int)) = true := decide_eq_true (by omega)
   have r0 : (0 ≤ (m : Int)) = True := eq_true (by omega)
   have r1 : ((m : Int) ≤ (N : Int)) = True := eq_true (by omega)
   have r2 : ((m : Int) ≤ (cap : Int)) = True := eq_true (by omega)
   have r3 : ((N : Int) ≤ (cap : Int)) = True := eq_true (by omega)
   have r4 : (m ≤ N) = True := eq_true (by omega)
   have r5 : (N ≤ cap) = True := eq_true (by omega)
   have r6 : (m ≤ cap) = True := eq_true (by omega)
   have t1 : (cap - m = 0) = False := eq_false (by omega)
   have t4 : (cap ≤ m) = False := eq_false (by omega)
   have t5 : (m = cap) = False := eq_false (by omega)
   have t6 : (cap = m) = False := eq_false (by omega)
   clear hkk hmn
   go_wp2
   refine start_ (n := 10) (S := fun w' => True) (ds := []) #[false, false, false, false, false, false, false, false, false, false] (by kernel_rfl) rfl rfl trivial (fun hHeld => ?_); refine with_tabW rep_walk.tab9 rep_walk.bits9 (fun HT_ HW_ => ?_)
   have HB9 : As0 (Below w.heap.size w (wr.drew.setCells g m (List.replicate k (.int .i64 v)))) := ⟨(bwd HB.out).grown HF.out.2 HB.out.size (fun q hq => by injection hq with hq; subst hq; exact HG.out.1)⟩
   have HVd := As0.mk (Kd.R_drew HV.out)
   clear HV HB
   generalize wr.drew = wd at *
   refine pure_ (i := 0) (N := some 38) (v := ?_) (a' := ?_) #[true, false, false, false, false, false, false, false, false, false] rfl rfl (any_of HT_.out (by kernel_rfl)) (fun _ _ _ h => h) (Or.inl ⟨by rfl, ?_⟩) ?_ ?_
   rotate_left
   ·intro w'
    go_simp
    with_reducible rfl
   rotate_left
   ·simp only [Act.put, List.setIfInBounds_toArray, List.set_cons_zero, List.set_cons_succ, i64_w, i32_w]
    rfl
   refine pure_ (i := 1) (N := some 39) (v := ?_) (a' := ?_) #[true, true, false, false, false, false, false, false, false, false] rfl rfl (any_of HT_.out (by kernel_rfl)) (fun _ _ _ h => h) (Or.inl ⟨by rfl, ?_⟩) ?_ ?_
   rotate_left
   ·intro w'
    go_simp
    with_reducible rfl
   rotate_left
   ·simp only [Act.put, List.setIfInBounds_toArray, List.set_cons_zero, List.set_cons_succ, i64_w, i32_w]
    rfl
   refine pure_ (i := 2) (N := some 40) (v := ?_) (a' := ?_) #[true, true, true, false, false, false, false, false, false, false] rfl rfl (any_of HT_.out (by kernel_rfl)) (fun _ _ _ h => h) (Or.inl ⟨by rfl, ?_⟩) ?_ ?_
   rotate_left
   ·intro w'
    go_simp
    with_reducible rfl
   rotate_left
   ·simp only [Act.put, List.setIfInBounds_toArray, List.set_cons_zero, List.set_cons_succ, i64_w, i32_w]
    rfl
   refine pure_ (i := 3) (N := some 41) (v := ?_) (a' := ?_) #[true, true, true, true, false, false, false, false, false, false] rfl rfl (any_of HT_.out (by kernel_rfl)) (fun _ _ _ h => h) (Or.inl ⟨by rfl, ?_⟩) ?_ ?_
   rotate_left
   ·intro w'
    go_simp
    with_reducible rfl
   rotate_left
   ·simp only [Act.put, List.setIfInBounds_toArray, List.set_cons_zero, List.set_cons_succ, i64_w, i32_w]
    rfl
   refine pure_ (i := 4) (N := some 42) (v := ?_) (a' := ?_) #[true, true, true, true, true, false, false, false, false, false] rfl rfl (any_of HT_.out (by kernel_rfl)) (fun _ _ _ h => h) (Or.inl ⟨by rfl, ?_⟩) ?_ ?_
   rotate_left
   ·intro w'
    go_simp
    with_reducible rfl
   rotate_left
   ·simp only [Act.put, List.setIfInBounds_toArray, List.set_cons_zero, List.set_cons_succ, i64_w, i32_w]
    rfl
   refine pure_ (i := 5) (N := some 43) (v := ?_) (a' := ?_) #[true, true, true, true, true, true, false, false, false, false] rfl rfl (any_of HT_.out (by kernel_rfl)) (fun _ _ _ h => h) (Or.inl ⟨by rfl, ?_⟩) ?_ ?_
   rotate_left
   ·intro w'
    go_simp
    with_reducible rfl
   rotate_left
   ·simp only [Act.put, List.setIfInBounds_toArray, List.set_cons_zero, List.set_cons_succ, i64_w, i32_w]
    rfl
   refine pure_ (i := 6) (N := some 44) (v := ?_) (a' := ?_) #[true, true, true, true, true, true, true, false, false, false] rfl rfl (any_of HT_.out (by kernel_rfl)) (fun _ _ _ h => h) (Or.inl ⟨by rfl, ?_⟩) ?_ ?_
   rotate_left
   ·intro w'
    go_simp
    with_reducible rfl
   rotate_left
   ·simp only [Act.put, List.setIfInBounds_toArray, List.set_cons_zero, List.set_cons_succ, i64_w, i32_w]
    rfl
   refine one_ (i := 7) (N := some 45) #[true, true, true, true, true, true, true, true, false, false] rfl rfl (one_of HT_.out (by kernel_rfl)) (by decide) (fun K hK => ?_)
   have hsrc : ∀ (j : Nat) (u : Value), (List.replicate k (Value.int .i64 v))[j]? = some u → wd.cell? ((⟨g, 0, none⟩ : Addr).add j) = some u := fun j u hj => by
    rw [List.getElem?_replicate] at hj
    split at hj
    case isFalse => cases hj
    case isTrue hjl =>
    obtain rfl := Option.some.inj hj
    have h9 := (Kd.R_celln 0 HVd.out (j : Int) (by omega) (by have := HKK.out; omega)).1
    rw [Int.toNat_natCast, rdOf, Int.toNat_natCast, List.getD_eq_getElem?_getD, List.getElem?_append_left (by rw [List.length_replicate]; have := HKK.out; omega), List.getElem?_replicate, if_pos (by have := HKK.out; omega)] at h9
    rw [add_plain]
    exact h9
   have hcells : ∀ j, j < (List.replicate k (Value.int .i64 v)).length → wd.cell? ⟨g, m + j, none⟩ = some (.int .i64 (rdOf 0 (List.replicate m v ++ List.replicate (N - m) 0) ((m + j : Nat) : Int))) ∧ wd.frozen? ⟨g, m + j, none⟩ = false := fun j hj => by
    rw [List.length_replicate] at hj
    have h9 := Kd.R_celln 0 HVd.out ((m + j : Nat) : Int) (by omega) (by have := HKK.out; omega)
    rwa [Int.toNat_natCast] at h9
   have hrc := run_copy_cells (P := Tryz.prog) wd 39 39 3 3 g m (N - m) (cap - m) ⟨g, 0, none⟩ m cap (List.replicate k (.int .i64 v)) Tryz.underlying39 (by kernel_rfl) (by rw [List.length_replicate]; exact HKK.out.1) hsrc (fun j hj => by rw [(hcells j hj).1]; rfl) (fun j hj => (hcells j hj).2) (fun u hu => by rw [List.eq_of_mem_replicate hu]; rfl)
   rw [List.length_replicate] at hrc
   clear hsrc hcells
   refine value_ (w1 := wd.setCells g m (List.replicate k (.int .i64 v))) (v := .int .i64 (k : Int)) (by rfl) rfl ?_ ?_
   ·go_simp
   refine hK.out _ _ trivial (fun hHeld => ?_)
   clear hK K
   refine norm_ (a' := ?_) ?_ ?_
   rotate_left
   ·show Act.put _ (some 45) _ = _
    simp only [Act.put, List.setIfInBounds_toArray, List.set_cons_zero, List.set_cons_succ, i64_w, i32_w]
    rfl
   refine pure_ (i := 8) (N := some 46) (v := ?_) (a' := ?_) #[true, true, true, true, true, true, true, true, true, false] rfl rfl (any_of HT_.out (by kernel_rfl)) (fun _ _ _ h => h) (Or.inl ⟨by rfl, ?_⟩) ?_ ?_
   rotate_left
   ·intro w'
    go_simp
    with_reducible rfl
   rotate_left
   ·simp only [Act.put, List.setIfInBounds_toArray, List.set_cons_zero, List.set_cons_succ, i64_w, i32_w]
    rfl
   refine pure_ (i := 9) (N := some 8) (v := ?_) (a' := ?_) #[true, true, true, true, true, true, true, true, true, true] rfl rfl (any_of HT_.out (by kernel_rfl)) (fun _ _ _ h => h) (Or.inl ⟨by rfl, ?_⟩) ?_ ?_
   rotate_left
   ·intro w'
    go_simp
    with_reducible rfl
   rotate_left
   ·simp only [Act.put, List.setIfInBounds_toArray, List.set_cons_zero, List.set_cons_succ, i64_w, i32_w]
    rfl
   refine done_ (done_of HT_.out (by kernel_rfl)) ?_
   go_wp2
   go_roundg kq1
   case measure => omega
   case rel => exact ⟨m + k, (by first | rfl | exact congrArg _ (by omega)), ⟨by have := HI.out; omega, by have := HKK.out; omega, by have := HI.out; have := HKK.out; omega⟩, ⟨HF.out.1⟩, ⟨HB9.out⟩⟩
  ·have hlt : decide ((m : Int) < (N : Int)) = false := decide_eq_false (by omega)
   have hlt' : decide (m < N) = false := decide_eq_false hmn
   have hmN : m = N := by have := HI.out; omega
   go_wp2
   go_ret
   exact ⟨_, rfl, by have h9 := HV.out; rw [hmN, Nat.sub_self, List.replicate_zero, List.append_nil] at h9; exact h9, HB.out⟩
end Go.Proofs.YtphkionjjhhhlaaGreat.Q
end
