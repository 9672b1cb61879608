/- Lemmas and walks of this proof (part 3). -/
import Derived.Laws.EntriesVeiled
import Derived.Test.YtphkionjjhhhlaaGreatCTurns2
set_option linter.unusedVariables false
set_option linter.unusedSimpArgs false
section
namespace Go.Proofs.YtphkionjjhhhlaaGreat.Q
open Go.RowKit Go.Proofs.YtphkionjjhhhlaaGreatW.PrintWords Go.Proofs.YtphkionjjhhhlaaGreatW.PrintLast Go.Proofs.YtphkionjjhhhlaaGreatW.PrintMore
def dioramaref00_EqImage.f (k : Nat) (a0_0 : Int) (a0_1 : Int) (a0_2 : Int) (l0_3 : List (List Int)) (a1_0 : Int) (a1_1 : Int) (a1_2 : Int) (l1_3 : List (List Int)) : Option (Bool) := if a0_0 = a1_0 then (if a0_1 = a1_1 then (if a0_2 = a1_2 then ((dioramaref00_EqRows.f k l0_3 l1_3).bind fun t202 => (some t202)) else (some false)) else (some false)) else (some false)
set_option maxHeartbeats 8000000 in
set_option maxRecDepth 100000 in
theorem dioramaref00_EqImage.calls (k : Nat) (a0_0 : Int) (a0_1 : Int) (a0_2 : Int) (A0_3 : Option Addr) (c0_3 : Nat) (l0_3 : List (List Int)) (a1_0 : Int) (a1_1 : Int) (a1_2 : Int) (A1_3 : Option Addr) (c1_3 : Nat) (l1_3 : List (List Int)) (r : Bool) (w : World) (hr0_3 : Kd.C (Kd.slice 3 (Kd.int .i64)) w A0_3 l0_3.length l0_3) (hc0_3 : l0_3.length ≤ c0_3) (hr1_3 : Kd.C (Kd.slice 3 (Kd.int .i64)) w A1_3 l1_3.length l1_3) (hc1_3 : l1_3.length ≤ c1_3) (h : dioramaref00_EqImage.f k a0_0 a0_1 a0_2 l0_3 a1_0 a1_1 a1_2 l1_3 = some r) :
    Calls Tryz.prog 15 #[.agg #[.int .i64 a0_0, .int .i64 a0_1, .int .i64 a0_2, .slice A0_3 l0_3.length c0_3], .agg #[.int .i64 a1_0, .int .i64 a1_1, .int .i64 a1_2, .slice A1_3 l1_3.length c1_3]] w fun e w' => e = .returned (.bool r) ∧ Below w.heap.size w w' := by
  have hu24 := Tryz.underlying24
  have HR0_3 := Aside0.mk hr0_3
  have HC0_3 := Aside0.mk hc0_3
  clear hr0_3 hc0_3
  have HR1_3 := Aside0.mk hr1_3
  have HC1_3 := Aside0.mk hc1_3
  clear hr1_3 hc1_3
  have HB := Aside0.mk (Below.refl w.heap.size w)
  have H : (if a0_0 = a1_0 then (if a0_1 = a1_1 then (if a0_2 = a1_2 then ((dioramaref00_EqRows.f k l0_3 l1_3).bind fun t202 => (some t202)) else (some false)) else (some false)) else (some false)) = some r := h
  clear h
  by_cases c3 : a0_0 = a1_0
  · rw [if_pos c3] at H
    have c3b0 : (a0_0 == a1_0) = true := beq_iff_eq.mpr c3
    have c3b1 : (a0_0 != a1_0) = false := bne_eq_false_iff_eq.mpr c3
    clear c3
    by_cases c4 : a0_1 = a1_1
    · rw [if_pos c4] at H
      have c4b0 : (a0_1 == a1_1) = true := beq_iff_eq.mpr c4
      have c4b1 : (a0_1 != a1_1) = false := bne_eq_false_iff_eq.mpr c4
      clear c4
      by_cases c5 : a0_2 = a1_2
      · rw [if_pos c5] at H
        have c5b0 : (a0_2 == a1_2) = true := beq_iff_eq.mpr c5
        have c5b1 : (a0_2 != a1_2) = false := bne_eq_false_iff_eq.mpr c5
        clear c5
        replace H := Option.bind_eq_some_iff.mp H
        obtain ⟨t202, A60, H⟩ := H
        replace H : (some t202) = some r := H
        have A6 := Aside0.mk A60
        clear A60
        obtain rfl := Option.some.inj H
        go_enter Tryz.func15, Tryz.ntmps15
        go_wp2_with (first | ((with_reducible refine gate_dst (N := 2) rfl ?_); refine box_event ?hg (N := 2) ?hd (cs := #[.int .i64 a0_0, .int .i64 a0_1, .int .i64 a0_2, .slice A0_3 l0_3.length c0_3]) (t := 24) ?hr ?_; (case hd => rfl); (case hg => rfl); (case hr => first | (go_simp; done) | (go_simp; rfl)); intro gb200 hg w7 hbox hb; have n0_ := Aside0.mk (below_step (by repeat (first | (with_reducible first | exact HB.out | apply below_alloc | apply pw_below_drewN | apply below_drew1) | exact HB.out)) hb); have n1_ := Aside0.mk (hbox); have n2_ := Aside0.mk ((by rw [hg]; exact (below_size (by repeat (first | (with_reducible first | exact HB.out | apply below_alloc | apply pw_below_drewN | apply below_drew1) | exact HB.out))) : w.heap.size ≤ gb200)); have n3_ := Aside0.mk ((by rw [hg]; exact (below_size (by repeat (first | (with_reducible first | exact HB.out | apply below_alloc | apply pw_below_drewN | apply below_drew1) | exact HB.out))) : w.heap.size ≤ gb200)); clear HB; have HB := n0_; have BK200 := n1_; have GW200 := n2_; have GE200 := n3_; clear n0_ n1_ n2_ n3_; clear hb hbox hg) | ((with_reducible refine gate_dst (N := 3) rfl ?_); refine box_event ?hg (N := 3) ?hd (cs := #[.int .i64 a1_0, .int .i64 a1_1, .int .i64 a1_2, .slice A1_3 l1_3.length c1_3]) (t := 24) ?hr ?_; (case hd => rfl); (case hg => rfl); (case hr => first | (go_simp; done) | (go_simp; rfl)); intro gb201 hg w8 hbox hb; have n0_ := Aside0.mk (blk_below (g := gb200) (o := .cells #[.int .i64 a0_0, .int .i64 a0_1, .int .i64 a0_2, .slice A0_3 l0_3.length c0_3] 24 (0, 0)) (by (with_reducible repeat (first | refine blk_drewN ?_ _ | refine blk_drew ?_ | refine blk_alloc ?_ _)); exact BK200.out) hb); have n1_ := Aside0.mk (below_step (by repeat (first | (with_reducible first | exact HB.out | apply below_alloc | apply pw_below_drewN | apply below_drew1 | refine below_set ?_ GE200.out) | exact HB.out)) hb); have n2_ := Aside0.mk (hbox); have n3_ := Aside0.mk ((by rw [hg]; exact (below_size (by repeat (first | (with_reducible first | exact HB.out | apply below_alloc | apply pw_below_drewN | apply below_drew1 | refine below_set ?_ GE200.out) | exact HB.out))) : w.heap.size ≤ gb201)); have n4_ := Aside0.mk ((by rw [hg]; exact (below_size (by repeat (first | (with_reducible first | exact HB.out | apply below_alloc | apply pw_below_drewN | apply below_drew1 | refine below_set ?_ GE200.out) | exact HB.out))) : w.heap.size ≤ gb201)); have n5_ := Aside0.mk ((by rw [hg]; exact Nat.ne_of_lt (blk_lt (g := gb200) (o := .cells #[.int .i64 a0_0, .int .i64 a0_1, .int .i64 a0_2, .slice A0_3 l0_3.length c0_3] 24 (0, 0)) (by (with_reducible repeat (first | refine blk_drewN ?_ _ | refine blk_drew ?_ | refine blk_alloc ?_ _)); exact BK200.out)) : gb200 ≠ gb201)); have n6_ := Aside0.mk ((by rw [hg]; exact Nat.ne_of_gt (blk_lt (g := gb200) (o := .cells #[.int .i64 a0_0, .int .i64 a0_1, .int .i64 a0_2, .slice A0_3 l0_3.length c0_3] 24 (0, 0)) (by (with_reducible repeat (first | refine blk_drewN ?_ _ | refine blk_drew ?_ | refine blk_alloc ?_ _)); exact BK200.out)) : gb201 ≠ gb200)); clear BK200; clear HB; have BK200 := n0_; have HB := n1_; have BK201 := n2_; have GW201 := n3_; have GE201 := n4_; have NB200_201 := n5_; have NB201_200 := n6_; clear n0_ n1_ n2_ n3_ n4_ n5_ n6_; clear hb hbox hg; have hnb9 := NB200_201.out; have hnc9 := NB201_200.out; have hcz10_0 : w8.cell? ⟨gb200, 0, none⟩ = some (.int .i64 a0_0) := (blk_cell BK200.out 0).trans rfl; have hcz10_1 : w8.cell? ⟨gb200, 1, none⟩ = some (.int .i64 a0_1) := (blk_cell BK200.out 1).trans rfl; have hcz10_2 : w8.cell? ⟨gb200, 2, none⟩ = some (.int .i64 a0_2) := (blk_cell BK200.out 2).trans rfl; have hcz10_3 : w8.cell? ⟨gb200, 3, none⟩ = some (.slice A0_3 l0_3.length c0_3) := (blk_cell BK200.out 3).trans rfl; have hfz10_0 := blk_frozen BK200.out 0; have hfz10_1 := blk_frozen BK200.out 1; have hfz10_2 := blk_frozen BK200.out 2; have hfz10_3 := blk_frozen BK200.out 3; have hcz11_0 : w8.cell? ⟨gb201, 0, none⟩ = some (.int .i64 a1_0) := (blk_cell BK201.out 0).trans rfl; have hcz11_1 : w8.cell? ⟨gb201, 1, none⟩ = some (.int .i64 a1_1) := (blk_cell BK201.out 1).trans rfl; have hcz11_2 : w8.cell? ⟨gb201, 2, none⟩ = some (.int .i64 a1_2) := (blk_cell BK201.out 2).trans rfl; have hcz11_3 : w8.cell? ⟨gb201, 3, none⟩ = some (.slice A1_3 l1_3.length c1_3) := (blk_cell BK201.out 3).trans rfl; have hfz11_0 := blk_frozen BK201.out 0; have hfz11_1 := blk_frozen BK201.out 1; have hfz11_2 := blk_frozen BK201.out 2; have hfz11_3 := blk_frozen BK201.out 3) | (go_at_call 52; (with_reducible refine (dioramaref00_EqRows.calls k _ _ l0_3 _ _ l1_3 t202 _ ?side1 ?side2 ?side3 ?side4 A6.out).mono ?_); (case side1 => repeat (first | exact (Kd.C_below HR0_3.out HB.out) | (with_reducible refine Kd.C_alloc ?_ _) | (with_reducible refine Kd.C_drewN ?_ _) | (with_reducible refine Kd.C_drew ?_))); (case side2 => exact HC0_3.out); (case side3 => repeat (first | exact (Kd.C_below HR1_3.out HB.out) | (with_reducible refine Kd.C_alloc ?_ _) | (with_reducible refine Kd.C_drewN ?_ _) | (with_reducible refine Kd.C_drew ?_))); (case side4 => exact HC1_3.out); rintro e w' ⟨rfl, ⟨nd, rfl⟩⟩))
        go_ret
        exact ⟨by first | rfl | (simp [errW_none, errW_some] <;> rfl) | (simp [*, errW_none, errW_some] <;> rfl), by repeat (first | (with_reducible first | exact HB.out | apply below_alloc | apply pw_below_drewN | apply below_drew1 | refine below_set ?_ GE200.out | refine below_set ?_ GE201.out) | exact HB.out)⟩
      · rw [if_neg c5] at H
        have c5b0 : (a0_2 == a1_2) = false := beq_eq_false_iff_ne.mpr c5
        have c5b1 : (a0_2 != a1_2) = true := bne_iff_ne.mpr c5
        obtain rfl := Option.some.inj H
        go_enter Tryz.func15, Tryz.ntmps15
        go_wp2_with (first | ((with_reducible refine gate_dst (N := 2) rfl ?_); refine box_event ?hg (N := 2) ?hd (cs := #[.int .i64 a0_0, .int .i64 a0_1, .int .i64 a0_2, .slice A0_3 l0_3.length c0_3]) (t := 24) ?hr ?_; (case hd => rfl); (case hg => rfl); (case hr => first | (go_simp; done) | (go_simp; rfl)); intro gb200 hg w12 hbox hb; have n0_ := Aside0.mk (below_step (by repeat (first | (with_reducible first | exact HB.out | apply below_alloc | apply pw_below_drewN | apply below_drew1) | exact HB.out)) hb); have n1_ := Aside0.mk (hbox); have n2_ := Aside0.mk ((by rw [hg]; exact (below_size (by repeat (first | (with_reducible first | exact HB.out | apply below_alloc | apply pw_below_drewN | apply below_drew1) | exact HB.out))) : w.heap.size ≤ gb200)); have n3_ := Aside0.mk ((by rw [hg]; exact (below_size (by repeat (first | (with_reducible first | exact HB.out | apply below_alloc | apply pw_below_drewN | apply below_drew1) | exact HB.out))) : w.heap.size ≤ gb200)); clear HB; have HB := n0_; have BK200 := n1_; have GW200 := n2_; have GE200 := n3_; clear n0_ n1_ n2_ n3_; clear hb hbox hg) | ((with_reducible refine gate_dst (N := 3) rfl ?_); refine box_event ?hg (N := 3) ?hd (cs := #[.int .i64 a1_0, .int .i64 a1_1, .int .i64 a1_2, .slice A1_3 l1_3.length c1_3]) (t := 24) ?hr ?_; (case hd => rfl); (case hg => rfl); (case hr => first | (go_simp; done) | (go_simp; rfl)); intro gb201 hg w13 hbox hb; have n0_ := Aside0.mk (blk_below (g := gb200) (o := .cells #[.int .i64 a0_0, .int .i64 a0_1, .int .i64 a0_2, .slice A0_3 l0_3.length c0_3] 24 (0, 0)) (by (with_reducible repeat (first | refine blk_drewN ?_ _ | refine blk_drew ?_ | refine blk_alloc ?_ _)); exact BK200.out) hb); have n1_ := Aside0.mk (below_step (by repeat (first | (with_reducible first | exact HB.out | apply below_alloc | apply pw_below_drewN | apply below_drew1 | refine below_set ?_ GE200.out) | exact HB.out)) hb); have n2_ := Aside0.mk (hbox); have n3_ := Aside0.mk ((by rw [hg]; exact (below_size (by repeat (first | (with_reducible first | exact HB.out | apply below_alloc | apply pw_below_drewN | apply below_drew1 | refine below_set ?_ GE200.out) | exact HB.out))) : w.heap.size ≤ gb201)); have n4_ := Aside0.mk ((by rw [hg]; exact (below_size (by repeat (first | (with_reducible first | exact HB.out | apply below_alloc | apply pw_below_drewN | apply below_drew1 | refine below_set ?_ GE200.out) | exact HB.out))) : w.heap.size ≤ gb201)); have n5_ := Aside0.mk ((by rw [hg]; exact Nat.ne_of_lt (blk_lt (g := gb200) (o := .cells #[.int .i64 a0_0, .int .i64 a0_1, .int .i64 a0_2, .slice A0_3 l0_3.length c0_3] 24 (0, 0)) (by (with_reducible repeat (first | refine blk_drewN ?_ _ | refine blk_drew ?_ | refine blk_alloc ?_ _)); exact BK200.out)) : gb200 ≠ gb201)); have n6_ := Aside0.mk ((by rw [hg]; exact Nat.ne_of_gt (blk_lt (g := gb200) (o := .cells #[.int .i64 a0_0, .int .i64 a0_1, .int .i64 a0_2, .slice A0_3 l0_3.length c0_3] 24 (0, 0)) (by (with_reducible repeat (first | refine blk_drewN ?_ _ | refine blk_drew ?_ | refine blk_alloc ?_ _)); exact BK200.out)) : gb201 ≠ gb200)); clear BK200; clear HB; have BK200 := n0_; have HB := n1_; have BK201 := n2_; have GW201 := n3_; have GE201 := n4_; have NB200_201 := n5_; have NB201_200 := n6_; clear n0_ n1_ n2_ n3_ n4_ n5_ n6_; clear hb hbox hg; have hnb14 := NB200_201.out; have hnc14 := NB201_200.out; have hcz15_0 : w13.cell? ⟨gb200, 0, none⟩ = some (.int .i64 a0_0) := (blk_cell BK200.out 0).trans rfl; have hcz15_1 : w13.cell? ⟨gb200, 1, none⟩ = some (.int .i64 a0_1) := (blk_cell BK200.out 1).trans rfl; have hcz15_2 : w13.cell? ⟨gb200, 2, none⟩ = some (.int .i64 a0_2) := (blk_cell BK200.out 2).trans rfl; have hcz15_3 : w13.cell? ⟨gb200, 3, none⟩ = some (.slice A0_3 l0_3.length c0_3) := (blk_cell BK200.out 3).trans rfl; have hfz15_0 := blk_frozen BK200.out 0; have hfz15_1 := blk_frozen BK200.out 1; have hfz15_2 := blk_frozen BK200.out 2; have hfz15_3 := blk_frozen BK200.out 3; have hcz16_0 : w13.cell? ⟨gb201, 0, none⟩ = some (.int .i64 a1_0) := (blk_cell BK201.out 0).trans rfl; have hcz16_1 : w13.cell? ⟨gb201, 1, none⟩ = some (.int .i64 a1_1) := (blk_cell BK201.out 1).trans rfl; have hcz16_2 : w13.cell? ⟨gb201, 2, none⟩ = some (.int .i64 a1_2) := (blk_cell BK201.out 2).trans rfl; have hcz16_3 : w13.cell? ⟨gb201, 3, none⟩ = some (.slice A1_3 l1_3.length c1_3) := (blk_cell BK201.out 3).trans rfl; have hfz16_0 := blk_frozen BK201.out 0; have hfz16_1 := blk_frozen BK201.out 1; have hfz16_2 := blk_frozen BK201.out 2; have hfz16_3 := blk_frozen BK201.out 3))
        go_ret
        exact ⟨by first | rfl | (simp [errW_none, errW_some] <;> rfl) | (simp [*, errW_none, errW_some] <;> rfl), by repeat (first | (with_reducible first | exact HB.out | apply below_alloc | apply pw_below_drewN | apply below_drew1 | refine below_set ?_ GE200.out | refine below_set ?_ GE201.out) | exact HB.out)⟩
    · rw [if_neg c4] at H
      have c4b0 : (a0_1 == a1_1) = false := beq_eq_false_iff_ne.mpr c4
      have c4b1 : (a0_1 != a1_1) = true := bne_iff_ne.mpr c4
      obtain rfl := Option.some.inj H
      go_enter Tryz.func15, Tryz.ntmps15
      go_wp2_with (first | ((with_reducible refine gate_dst (N := 2) rfl ?_); refine box_event ?hg (N := 2) ?hd (cs := #[.int .i64 a0_0, .int .i64 a0_1, .int .i64 a0_2, .slice A0_3 l0_3.length c0_3]) (t := 24) ?hr ?_; (case hd => rfl); (case hg => rfl); (case hr => first | (go_simp; done) | (go_simp; rfl)); intro gb200 hg w17 hbox hb; have n0_ := Aside0.mk (below_step (by repeat (first | (with_reducible first | exact HB.out | apply below_alloc | apply pw_below_drewN | apply below_drew1) | exact HB.out)) hb); have n1_ := Aside0.mk (hbox); have n2_ := Aside0.mk ((by rw [hg]; exact (below_size (by repeat (first | (with_reducible first | exact HB.out | apply below_alloc | apply pw_below_drewN | apply below_drew1) | exact HB.out))) : w.heap.size ≤ gb200)); have n3_ := Aside0.mk ((by rw [hg]; exact (below_size (by repeat (first | (with_reducible first | exact HB.out | apply below_alloc | apply pw_below_drewN | apply below_drew1) | exact HB.out))) : w.heap.size ≤ gb200)); clear HB; have HB := n0_; have BK200 := n1_; have GW200 := n2_; have GE200 := n3_; clear n0_ n1_ n2_ n3_; clear hb hbox hg) | ((with_reducible refine gate_dst (N := 3) rfl ?_); refine box_event ?hg (N := 3) ?hd (cs := #[.int .i64 a1_0, .int .i64 a1_1, .int .i64 a1_2, .slice A1_3 l1_3.length c1_3]) (t := 24) ?hr ?_; (case hd => rfl); (case hg => rfl); (case hr => first | (go_simp; done) | (go_simp; rfl)); intro gb201 hg w18 hbox hb; have n0_ := Aside0.mk (blk_below (g := gb200) (o := .cells #[.int .i64 a0_0, .int .i64 a0_1, .int .i64 a0_2, .slice A0_3 l0_3.length c0_3] 24 (0, 0)) (by (with_reducible repeat (first | refine blk_drewN ?_ _ | refine blk_drew ?_ | refine blk_alloc ?_ _)); exact BK200.out) hb); have n1_ := Aside0.mk (below_step (by repeat (first | (with_reducible first | exact HB.out | apply below_alloc | apply pw_below_drewN | apply below_drew1 | refine below_set ?_ GE200.out) | exact HB.out)) hb); have n2_ := Aside0.mk (hbox); have n3_ := Aside0.mk ((by rw [hg]; exact (below_size (by repeat (first | (with_reducible first | exact HB.out | apply below_alloc | apply pw_below_drewN | apply below_drew1 | refine below_set ?_ GE200.out) | exact HB.out))) : w.heap.size ≤ gb201)); have n4_ := Aside0.mk ((by rw [hg]; exact (below_size (by repeat (first | (with_reducible first | exact HB.out | apply below_alloc | apply pw_below_drewN | apply below_drew1 | refine below_set ?_ GE200.out) | exact HB.out))) : w.heap.size ≤ gb201)); have n5_ := Aside0.mk ((by rw [hg]; exact Nat.ne_of_lt (blk_lt (g := gb200) (o := .cells #[.int .i64 a0_0, .int .i64 a0_1, .int .i64 a0_2, .slice A0_3 l0_3.length c0_3] 24 (0, 0)) (by (with_reducible repeat (first | refine blk_drewN ?_ _ | refine blk_drew ?_ | refine blk_alloc ?_ _)); exact BK200.out)) : gb200 ≠ gb201)); have n6_ := Aside0.mk ((by rw [hg]; exact Nat.ne_of_gt (blk_lt (g := gb200) (o := .cells #[.int .i64 a0_0, .int .i64 a0_1, .int .i64 a0_2, .slice A0_3 l0_3.length c0_3] 24 (0, 0)) (by (with_reducible repeat (first | refine blk_drewN ?_ _ | refine blk_drew ?_ | refine blk_alloc ?_ _)); exact BK200.out)) : gb201 ≠ gb200)); clear BK200; clear HB; have BK200 := n0_; have HB := n1_; have BK201 := n2_; have GW201 := n3_; have GE201 := n4_; have NB200_201 := n5_; have NB201_200 := n6_; clear n0_ n1_ n2_ n3_ n4_ n5_ n6_; clear hb hbox hg; have hnb19 := NB200_201.out; have hnc19 := NB201_200.out; have hcz20_0 : w18.cell? ⟨gb200, 0, none⟩ = some (.int .i64 a0_0) := (blk_cell BK200.out 0).trans rfl; have hcz20_1 : w18.cell? ⟨gb200, 1, none⟩ = some (.int .i64 a0_1) := (blk_cell BK200.out 1).trans rfl; have hcz20_2 : w18.cell? ⟨gb200, 2, none⟩ = some (.int .i64 a0_2) := (blk_cell BK200.out 2).trans rfl; have hcz20_3 : w18.cell? ⟨gb200, 3, none⟩ = some (.slice A0_3 l0_3.length c0_3) := (blk_cell BK200.out 3).trans rfl; have hfz20_0 := blk_frozen BK200.out 0; have hfz20_1 := blk_frozen BK200.out 1; have hfz20_2 := blk_frozen BK200.out 2; have hfz20_3 := blk_frozen BK200.out 3; have hcz21_0 : w18.cell? ⟨gb201, 0, none⟩ = some (.int .i64 a1_0) := (blk_cell BK201.out 0).trans rfl; have hcz21_1 : w18.cell? ⟨gb201, 1, none⟩ = some (.int .i64 a1_1) := (blk_cell BK201.out 1).trans rfl; have hcz21_2 : w18.cell? ⟨gb201, 2, none⟩ = some (.int .i64 a1_2) := (blk_cell BK201.out 2).trans rfl; have hcz21_3 : w18.cell? ⟨gb201, 3, none⟩ = some (.slice A1_3 l1_3.length c1_3) := (blk_cell BK201.out 3).trans rfl; have hfz21_0 := blk_frozen BK201.out 0; have hfz21_1 := blk_frozen BK201.out 1; have hfz21_2 := blk_frozen BK201.out 2; have hfz21_3 := blk_frozen BK201.out 3))
      go_ret
      exact ⟨by first | rfl | (simp [errW_none, errW_some] <;> rfl) | (simp [*, errW_none, errW_some] <;> rfl), by repeat (first | (with_reducible first | exact HB.out | apply below_alloc | apply pw_below_drewN | apply below_drew1 | refine below_set ?_ GE200.out | refine below_set ?_ GE201.out) | exact HB.out)⟩
  · rw [if_neg c3] at H
    have c3b0 : (a0_0 == a1_0) = false := beq_eq_false_iff_ne.mpr c3
    have c3b1 : (a0_0 != a1_0) = true := bne_iff_ne.mpr c3
    obtain rfl := Option.some.inj H
    go_enter Tryz.func15, Tryz.ntmps15
    go_wp2_with (first | ((with_reducible refine gate_dst (N := 2) rfl ?_); refine box_event ?hg (N := 2) ?hd (cs := #[.int .i64 a0_0, .int .i64 a0_1, .int .i64 a0_2, .slice A0_3 l0_3.length c0_3]) (t := 24) ?hr ?_; (case hd => rfl); (case hg => rfl); (case hr => first | (go_simp; done) | (go_simp; rfl)); intro gb200 hg w22 hbox hb; have n0_ := Aside0.mk (below_step (by repeat (first | (with_reducible first | exact HB.out | apply below_alloc | apply pw_below_drewN | apply below_drew1) | exact HB.out)) hb); have n1_ := Aside0.mk (hbox); have n2_ := Aside0.mk ((by rw [hg]; exact (below_size (by repeat (first | (with_reducible first | exact HB.out | apply below_alloc | apply pw_below_drewN | apply below_drew1) | exact HB.out))) : w.heap.size ≤ gb200)); have n3_ := Aside0.mk ((by rw [hg]; exact (below_size (by repeat (first | (with_reducible first | exact HB.out | apply below_alloc | apply pw_below_drewN | apply below_drew1) | exact HB.out))) : w.heap.size ≤ gb200)); clear HB; have HB := n0_; have BK200 := n1_; have GW200 := n2_; have GE200 := n3_; clear n0_ n1_ n2_ n3_; clear hb hbox hg) | ((with_reducible refine gate_dst (N := 3) rfl ?_); refine box_event ?hg (N := 3) ?hd (cs := #[.int .i64 a1_0, .int .i64 a1_1, .int .i64 a1_2, .slice A1_3 l1_3.length c1_3]) (t := 24) ?hr ?_; (case hd => rfl); (case hg => rfl); (case hr => first | (go_simp; done) | (go_simp; rfl)); intro gb201 hg w23 hbox hb; have n0_ := Aside0.mk (blk_below (g := gb200) (o := .cells #[.int .i64 a0_0, .int .i64 a0_1, .int .i64 a0_2, .slice A0_3 l0_3.length c0_3] 24 (0, 0)) (by (with_reducible repeat (first | refine blk_drewN ?_ _ | refine blk_drew ?_ | refine blk_alloc ?_ _)); exact BK200.out) hb); have n1_ := Aside0.mk (below_step (by repeat (first | (with_reducible first | exact HB.out | apply below_alloc | apply pw_below_drewN | apply below_drew1 | refine below_set ?_ GE200.out) | exact HB.out)) hb); have n2_ := Aside0.mk (hbox); have n3_ := Aside0.mk ((by rw [hg]; exact (below_size (by repeat (first | (with_reducible first | exact HB.out | apply below_alloc | apply pw_below_drewN | apply below_drew1 | refine below_set ?_ GE200.out) | exact HB.out))) : w.heap.size ≤ gb201)); have n4_ := Aside0.mk ((by rw [hg]; exact (below_size (by repeat (first | (with_reducible first | exact HB.out | apply below_alloc | apply pw_below_drewN | apply below_drew1 | refine below_set ?_ GE200.out) | exact HB.out))) : w.heap.size ≤ gb201)); have n5_ := Aside0.mk ((by rw [hg]; exact Nat.ne_of_lt (blk_lt (g := gb200) (o := .cells #[.int .i64 a0_0, .int .i64 a0_1, .int .i64 a0_2, .slice A0_3 l0_3.length c0_3] 24 (0, 0)) (by (with_reducible repeat (first | refine blk_drewN ?_ _ | refine blk_drew ?_ | refine blk_alloc ?_ _)); exact BK200.out)) : gb200 ≠ gb201)); have n6_ := Aside0.mk ((by rw [hg]; exact Nat.ne_of_gt (blk_lt (g := gb200) (o := .cells #[.int .i64 a0_0, .int .i64 a0_1, .int .i64 a0_2, .slice A0_3 l0_3.length c0_3] 24 (0, 0)) (by (with_reducible repeat (first | refine blk_drewN ?_ _ | refine blk_drew ?_ | refine blk_alloc ?_ _)); exact BK200.out)) : gb201 ≠ gb200)); clear BK200; clear HB; have BK200 := n0_; have HB := n1_; have BK201 := n2_; have GW201 := n3_; have GE201 := n4_; have NB200_201 := n5_; have NB201_200 := n6_; clear n0_ n1_ n2_ n3_ n4_ n5_ n6_; clear hb hbox hg; have hnb24 := NB200_201.out; have hnc24 := NB201_200.out; have hcz25_0 : w23.cell? ⟨gb200, 0, none⟩ = some (.int .i64 a0_0) := (blk_cell BK200.out 0).trans rfl; have hcz25_1 : w23.cell? ⟨gb200, 1, none⟩ = some (.int .i64 a0_1) := (blk_cell BK200.out 1).trans rfl; have hcz25_2 : w23.cell? ⟨gb200, 2, none⟩ = some (.int .i64 a0_2) := (blk_cell BK200.out 2).trans rfl; have hcz25_3 : w23.cell? ⟨gb200, 3, none⟩ = some (.slice A0_3 l0_3.length c0_3) := (blk_cell BK200.out 3).trans rfl; have hfz25_0 := blk_frozen BK200.out 0; have hfz25_1 := blk_frozen BK200.out 1; have hfz25_2 := blk_frozen BK200.out 2; have hfz25_3 := blk_frozen BK200.out 3; have hcz26_0 : w23.cell? ⟨gb201, 0, none⟩ = some (.int .i64 a1_0) := (blk_cell BK201.out 0).trans rfl; have hcz26_1 : w23.cell? ⟨gb201, 1, none⟩ = some (.int .i64 a1_1) := (blk_cell BK201.out 1).trans rfl; have hcz26_2 : w23.cell? ⟨gb201, 2, none⟩ = some (.int .i64 a1_2) := (blk_cell BK201.out 2).trans rfl; have hcz26_3 : w23.cell? ⟨gb201, 3, none⟩ = some (.slice A1_3 l1_3.length c1_3) := (blk_cell BK201.out 3).trans rfl; have hfz26_0 := blk_frozen BK201.out 0; have hfz26_1 := blk_frozen BK201.out 1; have hfz26_2 := blk_frozen BK201.out 2; have hfz26_3 := blk_frozen BK201.out 3))
    go_ret
    exact ⟨by first | rfl | (simp [errW_none, errW_some] <;> rfl) | (simp [*, errW_none, errW_some] <;> rfl), by repeat (first | (with_reducible first | exact HB.out | apply below_alloc | apply pw_below_drewN | apply below_drew1 | refine below_set ?_ GE200.out | refine below_set ?_ GE201.out) | exact HB.out)⟩
end Go.Proofs.YtphkionjjhhhlaaGreat.Q
end
section
namespace Go.Proofs.YtphkionjjhhhlaaGreat.Q
open Go.RowKit Go.Proofs.YtphkionjjhhhlaaGreatW.PrintWords Go.Proofs.YtphkionjjhhhlaaGreatW.PrintLast Go.Proofs.YtphkionjjhhhlaaGreatW.PrintMore
def dioramaref15_Turn.f (k : Nat) (a0_0 : Int) (a0_1 : Int) (a0_2 : Int) (l0_3 : List (List Int)) (a1 : Int) (a2 : Bool) : Option (Int × Int × Int × (List (List Int)) × Int) := (dioramaref14_Check.f k a0_0 a0_1 a0_2 l0_3).bind fun t187 => (if t187 = 0 then ((dioramaref15_in.f a1 0 3).bind fun t188 => (if t188 = true then ((dioramaref15_turned.f k a0_0 a0_1 a0_2 l0_3 a1 a2).bind fun bt189 => (some (bt189.1, bt189.2.1, bt189.2.2.1, bt189.2.2.2, 0))) else (some (0, 0, 0, ([] : List (List Int)), 1)))) else (some (0, 0, 0, ([] : List (List Int)), t187)))
set_option maxHeartbeats 8000000 in
set_option maxRecDepth 100000 in
theorem dioramaref15_Turn.calls (k : Nat) (a0_0 : Int) (a0_1 : Int) (a0_2 : Int) (A0_3 : Option Addr) (c0_3 : Nat) (l0_3 : List (List Int)) (a1 : Int) (a2 : Bool) (r1 : Int) (r2 : Int) (r3 : Int) (r4 : List (List Int)) (r5 : Int) (w : World) (hr0_3 : Kd.C (Kd.slice 3 (Kd.int .i64)) w A0_3 l0_3.length l0_3) (hc0_3 : l0_3.length ≤ c0_3) (h : dioramaref15_Turn.f k a0_0 a0_1 a0_2 l0_3 a1 a2 = some (r1, r2, r3, r4, r5)) :
    Calls Tryz.prog 14 #[.agg #[.int .i64 a0_0, .int .i64 a0_1, .int .i64 a0_2, .slice A0_3 l0_3.length c0_3], .int .i64 a1, .bool a2] w fun e w' => ∃ v3_ : Value, e = .returned (.tuple #[.agg #[.int .i64 r1, .int .i64 r2, .int .i64 r3, v3_], .int .i64 r5]) ∧ Kd.S (Kd.slice 3 (Kd.int .i64)) 39 w' w.heap.size (fun _ => True) v3_ r4 ∧ Below w.heap.size w w' := by
  have hu24 := Tryz.underlying24
  have HR0_3 := Aside0.mk hr0_3
  have HC0_3 := Aside0.mk hc0_3
  clear hr0_3 hc0_3
  have HB := Aside0.mk (Below.refl w.heap.size w)
  have H : ((dioramaref14_Check.f k a0_0 a0_1 a0_2 l0_3).bind fun t187 => (if t187 = 0 then ((dioramaref15_in.f a1 0 3).bind fun t188 => (if t188 = true then ((dioramaref15_turned.f k a0_0 a0_1 a0_2 l0_3 a1 a2).bind fun bt189 => (some (bt189.1, bt189.2.1, bt189.2.2.1, bt189.2.2.2, 0))) else (some (0, 0, 0, ([] : List (List Int)), 1)))) else (some (0, 0, 0, ([] : List (List Int)), t187)))) = some (r1, r2, r3, r4, r5) := h
  clear h
  replace H := Option.bind_eq_some_iff.mp H
  obtain ⟨t187, A40, H⟩ := H
  replace H : (if t187 = 0 then ((dioramaref15_in.f a1 0 3).bind fun t188 => (if t188 = true then ((dioramaref15_turned.f k a0_0 a0_1 a0_2 l0_3 a1 a2).bind fun bt189 => (some (bt189.1, bt189.2.1, bt189.2.2.1, bt189.2.2.2, 0))) else (some (0, 0, 0, ([] : List (List Int)), 1)))) else (some (0, 0, 0, ([] : List (List Int)), t187))) = some (r1, r2, r3, r4, r5) := H
  have A4 := Aside0.mk A40
  clear A40
  by_cases c5 : t187 = 0
  · rw [if_pos c5] at H
    have c5b0 : (t187 == 0) = true := beq_iff_eq.mpr c5
    have c5b1 : (t187 != 0) = false := bne_eq_false_iff_eq.mpr c5
    clear c5
    replace H := Option.bind_eq_some_iff.mp H
    obtain ⟨t188, A60, H⟩ := H
    replace H : (if t188 = true then ((dioramaref15_turned.f k a0_0 a0_1 a0_2 l0_3 a1 a2).bind fun bt189 => (some (bt189.1, bt189.2.1, bt189.2.2.1, bt189.2.2.2, 0))) else (some (0, 0, 0, ([] : List (List Int)), 1))) = some (r1, r2, r3, r4, r5) := H
    have A6 := Aside0.mk A60
    clear A60
    by_cases c7 : t188 = true
    · subst c7
      have H1 : ((dioramaref15_turned.f k a0_0 a0_1 a0_2 l0_3 a1 a2).bind fun bt189 => (some (bt189.1, bt189.2.1, bt189.2.2.1, bt189.2.2.2, 0))) = some (r1, r2, r3, r4, r5) := by rw [if_pos rfl] at H; exact H
      clear H
      have H := H1
      clear H1
      replace H := Option.bind_eq_some_iff.mp H
      obtain ⟨⟨t189, t190, t191, t192⟩, A80, H⟩ := H
      replace H : (some (t189, t190, t191, t192, 0)) = some (r1, r2, r3, r4, r5) := H
      have A8 := Aside0.mk A80
      clear A80
      simp only [Option.some.injEq, Prod.mk.injEq] at H
      obtain ⟨rfl, rfl, rfl, rfl, rfl⟩ := H
      go_enter Tryz.func14, Tryz.ntmps14
      go_wp2_with (first | ((with_reducible refine gate_dst (N := 3) rfl ?_); refine box_event ?hg (N := 3) ?hd (cs := #[.int .i64 a0_0, .int .i64 a0_1, .int .i64 a0_2, .slice A0_3 l0_3.length c0_3]) (t := 24) ?hr ?_; (case hd => rfl); (case hg => rfl); (case hr => first | (go_simp; done) | (go_simp; rfl)); intro gb185 hg w9 hbox hb; have n0_ := Aside0.mk (below_step (by repeat (first | (with_reducible first | exact HB.out | apply below_alloc | apply pw_below_drewN | apply below_drew1) | exact HB.out)) hb); have n1_ := Aside0.mk (hbox); have n2_ := Aside0.mk ((by rw [hg]; exact (below_size (by repeat (first | (with_reducible first | exact HB.out | apply below_alloc | apply pw_below_drewN | apply below_drew1) | exact HB.out))) : w.heap.size ≤ gb185)); have n3_ := Aside0.mk ((by rw [hg]; exact (below_size (by repeat (first | (with_reducible first | exact HB.out | apply below_alloc | apply pw_below_drewN | apply below_drew1) | exact HB.out))) : w.heap.size ≤ gb185)); clear HB; have HB := n0_; have BK185 := n1_; have GW185 := n2_; have GE185 := n3_; clear n0_ n1_ n2_ n3_; clear hb hbox hg) | ((with_reducible refine gate_dst (N := 6) rfl ?_); refine box_event ?hg (N := 6) ?hd (cs := #[.int .i64 0, .int .i64 0, .int .i64 0, .slice none 0 0]) (t := 24) ?hr ?_; (case hd => rfl); (case hg => rfl); (case hr => first | (go_simp; done) | (go_simp; rfl)); intro gb186 hg w10 hbox hb; have n0_ := Aside0.mk (blk_below (g := gb185) (o := .cells #[.int .i64 a0_0, .int .i64 a0_1, .int .i64 a0_2, .slice A0_3 l0_3.length c0_3] 24 (0, 0)) (by (with_reducible repeat (first | refine blk_drewN ?_ _ | refine blk_drew ?_ | refine blk_alloc ?_ _)); exact BK185.out) hb); have n1_ := Aside0.mk (below_step (by repeat (first | (with_reducible first | exact HB.out | apply below_alloc | apply pw_below_drewN | apply below_drew1 | refine below_set ?_ GE185.out) | exact HB.out)) hb); have n2_ := Aside0.mk (hbox); have n3_ := Aside0.mk ((by rw [hg]; exact (below_size (by repeat (first | (with_reducible first | exact HB.out | apply below_alloc | apply pw_below_drewN | apply below_drew1 | refine below_set ?_ GE185.out) | exact HB.out))) : w.heap.size ≤ gb186)); have n4_ := Aside0.mk ((by rw [hg]; exact (below_size (by repeat (first | (with_reducible first | exact HB.out | apply below_alloc | apply pw_below_drewN | apply below_drew1 | refine below_set ?_ GE185.out) | exact HB.out))) : w.heap.size ≤ gb186)); have n5_ := Aside0.mk ((by rw [hg]; exact Nat.ne_of_lt (blk_lt (g := gb185) (o := .cells #[.int .i64 a0_0, .int .i64 a0_1, .int .i64 a0_2, .slice A0_3 l0_3.length c0_3] 24 (0, 0)) (by (with_reducible repeat (first | refine blk_drewN ?_ _ | refine blk_drew ?_ | refine blk_alloc ?_ _)); exact BK185.out)) : gb185 ≠ gb186)); have n6_ := Aside0.mk ((by rw [hg]; exact Nat.ne_of_gt (blk_lt (g := gb185) (o := .cells #[.int .i64 a0_0, .int .i64 a0_1, .int .i64 a0_2, .slice A0_3 l0_3.length c0_3] 24 (0, 0)) (by (with_reducible repeat (first | refine blk_drewN ?_ _ | refine blk_drew ?_ | refine blk_alloc ?_ _)); exact BK185.out)) : gb186 ≠ gb185)); clear BK185; clear HB; have BK185 := n0_; have HB := n1_; have BK186 := n2_; have GW186 := n3_; have GE186 := n4_; have NB185_186 := n5_; have NB186_185 := n6_; clear n0_ n1_ n2_ n3_ n4_ n5_ n6_; clear hb hbox hg; have hnb11 := NB185_186.out; have hnc11 := NB186_185.out; have hcz12_0 : w10.cell? ⟨gb185, 0, none⟩ = some (.int .i64 a0_0) := (blk_cell BK185.out 0).trans rfl; have hcz12_1 : w10.cell? ⟨gb185, 1, none⟩ = some (.int .i64 a0_1) := (blk_cell BK185.out 1).trans rfl; have hcz12_2 : w10.cell? ⟨gb185, 2, none⟩ = some (.int .i64 a0_2) := (blk_cell BK185.out 2).trans rfl; have hcz12_3 : w10.cell? ⟨gb185, 3, none⟩ = some (.slice A0_3 l0_3.length c0_3) := (blk_cell BK185.out 3).trans rfl; have hfz12_0 := blk_frozen BK185.out 0; have hfz12_1 := blk_frozen BK185.out 1; have hfz12_2 := blk_frozen BK185.out 2; have hfz12_3 := blk_frozen BK185.out 3) | ((with_reducible refine gate_callee (f := 30) rfl ?_); refine goesL_ (some 10) rfl rfl Tryz.func30 (by kernel_rfl) rfl #[.agg #[.int .i64 a0_0, .int .i64 a0_1, .int .i64 a0_2, .slice A0_3 l0_3.length c0_3]] rfl (by (try simp only [List.map_toArray, List.map_cons, List.map_nil]); first | done | rfl | (simp only [List.length_drop, List.length_take]; rfl)) ?_; (with_reducible refine (dioramaref14_Check.calls k a0_0 a0_1 a0_2 _ _ l0_3 t187 _ ?side1 ?side2 A4.out).mono ?_); (case side1 => repeat (first | exact (Kd.C_below HR0_3.out HB.out) | (with_reducible refine Kd.C_alloc ?_ _) | (with_reducible refine Kd.C_drewN ?_ _) | (with_reducible refine Kd.C_drew ?_))); (case side2 => exact HC0_3.out); rintro e w13 ⟨rfl, hb⟩; refine ⟨_, rfl, ?_⟩; have n0_ := Aside0.mk (blk_below (g := gb185) (o := .cells #[.int .i64 a0_0, .int .i64 a0_1, .int .i64 a0_2, .slice A0_3 l0_3.length c0_3] 24 (0, 0)) (by (with_reducible repeat (first | refine blk_drewN ?_ _ | refine blk_drew ?_ | refine blk_alloc ?_ _)); exact BK185.out) hb); have n1_ := Aside0.mk (blk_below (g := gb186) (o := .cells #[.int .i64 0, .int .i64 0, .int .i64 0, .slice none 0 0] 24 (0, 0)) (by (with_reducible repeat (first | refine blk_drewN ?_ _ | refine blk_drew ?_ | refine blk_alloc ?_ _)); exact BK186.out) hb); have n2_ := Aside0.mk (below_step (by repeat (first | (with_reducible first | exact HB.out | apply below_alloc | apply pw_below_drewN | apply below_drew1 | refine below_set ?_ GE185.out | refine below_set ?_ GE186.out) | exact HB.out)) hb); clear BK185; clear BK186; clear HB; have BK185 := n0_; have BK186 := n1_; have HB := n2_; clear n0_ n1_ n2_; (try clear hb); (try clear hb2); (try clear hk); (try clear hi)) | ((with_reducible refine gate_callee (f := 50) rfl ?_); refine goesL_ (some 16) rfl rfl Tryz.func50 (by kernel_rfl) rfl #[.int .i64 a1, .int .i64 0, .int .i64 3] rfl (by (try simp only [List.map_toArray, List.map_cons, List.map_nil]); first | done | rfl | (simp only [List.length_drop, List.length_take]; rfl)) ?_; (with_reducible refine (dioramaref15_in.calls a1 0 3 true _ A6.out).mono ?_); rintro e w' ⟨rfl, ⟨nd, rfl⟩⟩; refine ⟨_, rfl, ?_⟩; (try (rw [drewN_self w13]; generalize hq_ : World.drewN w13 _ = w13; have n0_ : Aside0 (w13.heap[gb185]? = some (.cells #[.int .i64 a0_0, .int .i64 a0_1, .int .i64 a0_2, .slice A0_3 l0_3.length c0_3] 24 (0, 0))) := ⟨by rw [← hq_]; exact (by (with_reducible repeat (first | refine blk_drewN ?_ _ | refine blk_drew ?_ | refine blk_alloc ?_ _)); exact BK185.out)⟩; have n1_ : Aside0 (w13.heap[gb186]? = some (.cells #[.int .i64 0, .int .i64 0, .int .i64 0, .slice none 0 0] 24 (0, 0))) := ⟨by rw [← hq_]; exact (by (with_reducible repeat (first | refine blk_drewN ?_ _ | refine blk_drew ?_ | refine blk_alloc ?_ _)); exact BK186.out)⟩; have n2_ : Aside0 (Below w.heap.size w w13) := ⟨by rw [← hq_]; exact (by repeat (first | (with_reducible first | exact HB.out | apply below_alloc | apply pw_below_drewN | apply below_drew1 | refine below_set ?_ GE185.out | refine below_set ?_ GE186.out) | exact HB.out))⟩; clear BK185 BK186 HB hq_; have BK185 := n0_; have BK186 := n1_; have HB := n2_; clear n0_ n1_ n2_)); have hcz14_0 : w13.cell? ⟨gb185, 0, none⟩ = some (.int .i64 a0_0) := (blk_cell BK185.out 0).trans rfl; have hcz14_1 : w13.cell? ⟨gb185, 1, none⟩ = some (.int .i64 a0_1) := (blk_cell BK185.out 1).trans rfl; have hcz14_2 : w13.cell? ⟨gb185, 2, none⟩ = some (.int .i64 a0_2) := (blk_cell BK185.out 2).trans rfl; have hcz14_3 : w13.cell? ⟨gb185, 3, none⟩ = some (.slice A0_3 l0_3.length c0_3) := (blk_cell BK185.out 3).trans rfl; have hfz14_0 := blk_frozen BK185.out 0; have hfz14_1 := blk_frozen BK185.out 1; have hfz14_2 := blk_frozen BK185.out 2; have hfz14_3 := blk_frozen BK185.out 3) | ((with_reducible refine gate_callee (f := 51) rfl ?_); refine goesL_ (some 22) rfl rfl Tryz.func51 (by kernel_rfl) rfl #[.agg #[.int .i64 a0_0, .int .i64 a0_1, .int .i64 a0_2, .slice A0_3 l0_3.length c0_3], .int .i64 a1, .bool a2] rfl (by (try simp only [List.map_toArray, List.map_cons, List.map_nil]); first | done | rfl | (simp only [List.length_drop, List.length_take]; rfl)) ?_; (with_reducible refine (dioramaref15_turned.calls k a0_0 a0_1 a0_2 (fun k_ => k_ < w.heap.size) _ _ l0_3 a1 a2 t189 t190 t191 t192 _ ?side1 A8.out).mono ?_); (case side1 => exact Kd.V_mk HC0_3.out (Kd.F_below (Kd.C_F (Kd.heap_slice 3 (Kd.heap_int .i64)) HR0_3.out) (by repeat (first | (with_reducible first | exact HB.out | apply below_alloc | apply pw_below_drewN | apply below_drew1 | refine below_set ?_ GE185.out | refine below_set ?_ GE186.out) | exact HB.out)))); rintro e w15 ⟨v193, rfl, ho0, hb⟩; refine ⟨_, rfl, ?_⟩; have n0_ := Aside0.mk (Kd.S_lower (Kd.S_mono (ok' := fun k_ => True) ho0 (fun _ hk_ => trivial)) (below_size (by repeat (first | (with_reducible first | exact HB.out | apply below_alloc | apply pw_below_drewN | apply below_drew1 | refine below_set ?_ GE185.out | refine below_set ?_ GE186.out) | exact HB.out)))); have n1_ := Aside0.mk (blk_below (g := gb185) (o := .cells #[.int .i64 a0_0, .int .i64 a0_1, .int .i64 a0_2, .slice A0_3 l0_3.length c0_3] 24 (0, 0)) (by (with_reducible repeat (first | refine blk_drewN ?_ _ | refine blk_drew ?_ | refine blk_alloc ?_ _)); exact BK185.out) hb); have n2_ := Aside0.mk (blk_below (g := gb186) (o := .cells #[.int .i64 0, .int .i64 0, .int .i64 0, .slice none 0 0] 24 (0, 0)) (by (with_reducible repeat (first | refine blk_drewN ?_ _ | refine blk_drew ?_ | refine blk_alloc ?_ _)); exact BK186.out) hb); have n3_ := Aside0.mk (below_step (by repeat (first | (with_reducible first | exact HB.out | apply below_alloc | apply pw_below_drewN | apply below_drew1 | refine below_set ?_ GE185.out | refine below_set ?_ GE186.out) | exact HB.out)) hb); clear BK185; clear BK186; clear HB; have HO194 := n0_; have BK185 := n1_; have BK186 := n2_; have HB := n3_; clear n0_ n1_ n2_ n3_; (try clear hb); (try clear hb2); (try clear hk); (try clear hi); (try clear ho0); have hcz16_0 : w15.cell? ⟨gb186, 0, none⟩ = some (.int .i64 0) := (blk_cell BK186.out 0).trans rfl; have hcz16_1 : w15.cell? ⟨gb186, 1, none⟩ = some (.int .i64 0) := (blk_cell BK186.out 1).trans rfl; have hcz16_2 : w15.cell? ⟨gb186, 2, none⟩ = some (.int .i64 0) := (blk_cell BK186.out 2).trans rfl; have hcz16_3 : w15.cell? ⟨gb186, 3, none⟩ = some (.slice none 0 0) := (blk_cell BK186.out 3).trans rfl; have hfz16_0 := blk_frozen BK186.out 0; have hfz16_1 := blk_frozen BK186.out 1; have hfz16_2 := blk_frozen BK186.out 2; have hfz16_3 := blk_frozen BK186.out 3; obtain ⟨Ao17, co17, eo17⟩ := Kd.S_slice HO194.out; subst eo17))
      refine bodyPost_ret (results_ct rfl _ _ gb186 24 #[.int .i64 t189, .int .i64 t190, .int .i64 t191, .slice Ao17 t192.length co17] (0, 0) _ rfl (by (with_reducible repeat (first | refine blk_drewN ?_ _ | refine blk_drew ?_ | refine blk_alloc ?_ _)); refine blk_put (cs := #[.int .i64 t189, .int .i64 t190, .int .i64 t191, .slice none 0 0]) ?_ 3 _ rfl; (with_reducible repeat (first | refine blk_drewN ?_ _ | refine blk_drew ?_ | refine blk_alloc ?_ _)); refine blk_put (cs := #[.int .i64 t189, .int .i64 t190, .int .i64 0, .slice none 0 0]) ?_ 2 _ rfl; (with_reducible repeat (first | refine blk_drewN ?_ _ | refine blk_drew ?_ | refine blk_alloc ?_ _)); refine blk_put (cs := #[.int .i64 t189, .int .i64 0, .int .i64 0, .slice none 0 0]) ?_ 1 _ rfl; (with_reducible repeat (first | refine blk_drewN ?_ _ | refine blk_drew ?_ | refine blk_alloc ?_ _)); refine blk_put (cs := #[.int .i64 0, .int .i64 0, .int .i64 0, .slice none 0 0]) ?_ 0 _ rfl; (with_reducible repeat (first | refine blk_drewN ?_ _ | refine blk_drew ?_ | refine blk_alloc ?_ _)); exact BK186.out) Tryz.underlying24 rfl (by kernel_rfl)) rfl ?_
      exact ⟨_, by first | rfl | (simp [errW_none, errW_some] <;> rfl) | (simp [*, errW_none, errW_some] <;> rfl), by (with_reducible repeat (first | apply Kd.S_alloc | apply Kd.S_drewN | apply Kd.S_drew)); exact Kd.S_mono (Kd.S_far (p := ⟨gb186, 3, none⟩) (Kd.S_far (p := ⟨gb186, 2, none⟩) (Kd.S_far (p := ⟨gb186, 1, none⟩) (Kd.S_far (p := ⟨gb186, 0, none⟩) (Kd.S_types HO194.out BK186.out (by decide)) (fun _ hk => hk.2) (.int .i64 t189)) (fun _ hk => hk.2) (.int .i64 t190)) (fun _ hk => hk.2) (.int .i64 t191)) (fun _ hk => hk.2) (.slice Ao17 t192.length co17)) (fun _ hk => trivial), by repeat (first | (with_reducible first | exact HB.out | apply below_alloc | apply pw_below_drewN | apply below_drew1 | refine below_set ?_ GE185.out | refine below_set ?_ GE186.out) | exact HB.out)⟩
    · replace c7 := Bool.eq_false_iff.mpr c7
      subst c7
      have H1 : (some (0, 0, 0, ([] : List (List Int)), 1)) = some (r1, r2, r3, r4, r5) := by rw [if_neg (show ¬ (false = true) by decide)] at H; exact H
      clear H
      have H := H1
      clear H1
      simp only [Option.some.injEq, Prod.mk.injEq] at H
      obtain ⟨rfl, rfl, rfl, rfl, rfl⟩ := H
      go_enter Tryz.func14, Tryz.ntmps14
      go_wp2_with (first | ((with_reducible refine gate_dst (N := 3) rfl ?_); refine box_event ?hg (N := 3) ?hd (cs := #[.int .i64 a0_0, .int .i64 a0_1, .int .i64 a0_2, .slice A0_3 l0_3.length c0_3]) (t := 24) ?hr ?_; (case hd => rfl); (case hg => rfl); (case hr => first | (go_simp; done) | (go_simp; rfl)); intro gb185 hg w18 hbox hb; have n0_ := Aside0.mk (below_step (by repeat (first | (with_reducible first | exact HB.out | apply below_alloc | apply pw_below_drewN | apply below_drew1) | exact HB.out)) hb); have n1_ := Aside0.mk (hbox); have n2_ := Aside0.mk ((by rw [hg]; exact (below_size (by repeat (first | (with_reducible first | exact HB.out | apply below_alloc | apply pw_below_drewN | apply below_drew1) | exact HB.out))) : w.heap.size ≤ gb185)); have n3_ := Aside0.mk ((by rw [hg]; exact (below_size (by repeat (first | (with_reducible first | exact HB.out | apply below_alloc | apply pw_below_drewN | apply below_drew1) | exact HB.out))) : w.heap.size ≤ gb185)); clear HB; have HB := n0_; have BK185 := n1_; have GW185 := n2_; have GE185 := n3_; clear n0_ n1_ n2_ n3_; clear hb hbox hg) | ((with_reducible refine gate_dst (N := 6) rfl ?_); refine box_event ?hg (N := 6) ?hd (cs := #[.int .i64 0, .int .i64 0, .int .i64 0, .slice none 0 0]) (t := 24) ?hr ?_; (case hd => rfl); (case hg => rfl); (case hr => first | (go_simp; done) | (go_simp; rfl)); intro gb186 hg w19 hbox hb; have n0_ := Aside0.mk (blk_below (g := gb185) (o := .cells #[.int .i64 a0_0, .int .i64 a0_1, .int .i64 a0_2, .slice A0_3 l0_3.length c0_3] 24 (0, 0)) (by (with_reducible repeat (first | refine blk_drewN ?_ _ | refine blk_drew ?_ | refine blk_alloc ?_ _)); exact BK185.out) hb); have n1_ := Aside0.mk (below_step (by repeat (first | (with_reducible first | exact HB.out | apply below_alloc | apply pw_below_drewN | apply below_drew1 | refine below_set ?_ GE185.out) | exact HB.out)) hb); have n2_ := Aside0.mk (hbox); have n3_ := Aside0.mk ((by rw [hg]; exact (below_size (by repeat (first | (with_reducible first | exact HB.out | apply below_alloc | apply pw_below_drewN | apply below_drew1 | refine below_set ?_ GE185.out) | exact HB.out))) : w.heap.size ≤ gb186)); have n4_ := Aside0.mk ((by rw [hg]; exact (below_size (by repeat (first | (with_reducible first | exact HB.out | apply below_alloc | apply pw_below_drewN | apply below_drew1 | refine below_set ?_ GE185.out) | exact HB.out))) : w.heap.size ≤ gb186)); have n5_ := Aside0.mk ((by rw [hg]; exact Nat.ne_of_lt (blk_lt (g := gb185) (o := .cells #[.int .i64 a0_0, .int .i64 a0_1, .int .i64 a0_2, .slice A0_3 l0_3.length c0_3] 24 (0, 0)) (by (with_reducible repeat (first | refine blk_drewN ?_ _ | refine blk_drew ?_ | refine blk_alloc ?_ _)); exact BK185.out)) : gb185 ≠ gb186)); have n6_ := Aside0.mk ((by rw [hg]; exact Nat.ne_of_gt (blk_lt (g := gb185) (o := .cells #[.int .i64 a0_0, .int .i64 a0_1, .int .i64 a0_2, .slice A0_3 l0_3.length c0_3] 24 (0, 0)) (by (with_reducible repeat (first | refine blk_drewN ?_ _ | refine blk_drew ?_ | refine blk_alloc ?_ _)); exact BK185.out)) : gb186 ≠ gb185)); clear BK185; clear HB; have BK185 := n0_; have HB := n1_; have BK186 := n2_; have GW186 := n3_; have GE186 := n4_; have NB185_186 := n5_; have NB186_185 := n6_; clear n0_ n1_ n2_ n3_ n4_ n5_ n6_; clear hb hbox hg; have hnb20 := NB185_186.out; have hnc20 := NB186_185.out; have hcz21_0 : w19.cell? ⟨gb185, 0, none⟩ = some (.int .i64 a0_0) := (blk_cell BK185.out 0).trans rfl; have hcz21_1 : w19.cell? ⟨gb185, 1, none⟩ = some (.int .i64 a0_1) := (blk_cell BK185.out 1).trans rfl; have hcz21_2 : w19.cell? ⟨gb185, 2, none⟩ = some (.int .i64 a0_2) := (blk_cell BK185.out 2).trans rfl; have hcz21_3 : w19.cell? ⟨gb185, 3, none⟩ = some (.slice A0_3 l0_3.length c0_3) := (blk_cell BK185.out 3).trans rfl; have hfz21_0 := blk_frozen BK185.out 0; have hfz21_1 := blk_frozen BK185.out 1; have hfz21_2 := blk_frozen BK185.out 2; have hfz21_3 := blk_frozen BK185.out 3) | ((with_reducible refine gate_callee (f := 30) rfl ?_); refine goesL_ (some 10) rfl rfl Tryz.func30 (by kernel_rfl) rfl #[.agg #[.int .i64 a0_0, .int .i64 a0_1, .int .i64 a0_2, .slice A0_3 l0_3.length c0_3]] rfl (by (try simp only [List.map_toArray, List.map_cons, List.map_nil]); first | done | rfl | (simp only [List.length_drop, List.length_take]; rfl)) ?_; (with_reducible refine (dioramaref14_Check.calls k a0_0 a0_1 a0_2 _ _ l0_3 t187 _ ?side1 ?side2 A4.out).mono ?_); (case side1 => repeat (first | exact (Kd.C_below HR0_3.out HB.out) | (with_reducible refine Kd.C_alloc ?_ _) | (with_reducible refine Kd.C_drewN ?_ _) | (with_reducible refine Kd.C_drew ?_))); (case side2 => exact HC0_3.out); rintro e w22 ⟨rfl, hb⟩; refine ⟨_, rfl, ?_⟩; have n0_ := Aside0.mk (blk_below (g := gb185) (o := .cells #[.int .i64 a0_0, .int .i64 a0_1, .int .i64 a0_2, .slice A0_3 l0_3.length c0_3] 24 (0, 0)) (by (with_reducible repeat (first | refine blk_drewN ?_ _ | refine blk_drew ?_ | refine blk_alloc ?_ _)); exact BK185.out) hb); have n1_ := Aside0.mk (blk_below (g := gb186) (o := .cells #[.int .i64 0, .int .i64 0, .int .i64 0, .slice none 0 0] 24 (0, 0)) (by (with_reducible repeat (first | refine blk_drewN ?_ _ | refine blk_drew ?_ | refine blk_alloc ?_ _)); exact BK186.out) hb); have n2_ := Aside0.mk (below_step (by repeat (first | (with_reducible first | exact HB.out | apply below_alloc | apply pw_below_drewN | apply below_drew1 | refine below_set ?_ GE185.out | refine below_set ?_ GE186.out) | exact HB.out)) hb); clear BK185; clear BK186; clear HB; have BK185 := n0_; have BK186 := n1_; have HB := n2_; clear n0_ n1_ n2_; (try clear hb); (try clear hb2); (try clear hk); (try clear hi)) | ((with_reducible refine gate_callee (f := 50) rfl ?_); refine goesL_ (some 16) rfl rfl Tryz.func50 (by kernel_rfl) rfl #[.int .i64 a1, .int .i64 0, .int .i64 3] rfl (by (try simp only [List.map_toArray, List.map_cons, List.map_nil]); first | done | rfl | (simp only [List.length_drop, List.length_take]; rfl)) ?_; (with_reducible refine (dioramaref15_in.calls a1 0 3 false _ A6.out).mono ?_); rintro e w' ⟨rfl, ⟨nd, rfl⟩⟩; refine ⟨_, rfl, ?_⟩; (try (rw [drewN_self w22]; generalize hq_ : World.drewN w22 _ = w22; have n0_ : Aside0 (w22.heap[gb185]? = some (.cells #[.int .i64 a0_0, .int .i64 a0_1, .int .i64 a0_2, .slice A0_3 l0_3.length c0_3] 24 (0, 0))) := ⟨by rw [← hq_]; exact (by (with_reducible repeat (first | refine blk_drewN ?_ _ | refine blk_drew ?_ | refine blk_alloc ?_ _)); exact BK185.out)⟩; have n1_ : Aside0 (w22.heap[gb186]? = some (.cells #[.int .i64 0, .int .i64 0, .int .i64 0, .slice none 0 0] 24 (0, 0))) := ⟨by rw [← hq_]; exact (by (with_reducible repeat (first | refine blk_drewN ?_ _ | refine blk_drew ?_ | refine blk_alloc ?_ _)); exact BK186.out)⟩; have n2_ : Aside0 (Below w.heap.size w w22) := ⟨by rw [← hq_]; exact (by repeat (first | (with_reducible first | exact HB.out | apply below_alloc | apply pw_below_drewN | apply below_drew1 | refine below_set ?_ GE185.out | refine below_set ?_ GE186.out) | exact HB.out))⟩; clear BK185 BK186 HB hq_; have BK185 := n0_; have BK186 := n1_; have HB := n2_; clear n0_ n1_ n2_)); have hcz23_0 : w22.cell? ⟨gb186, 0, none⟩ = some (.int .i64 0) := (blk_cell BK186.out 0).trans rfl; have hcz23_1 : w22.cell? ⟨gb186, 1, none⟩ = some (.int .i64 0) := (blk_cell BK186.out 1).trans rfl; have hcz23_2 : w22.cell? ⟨gb186, 2, none⟩ = some (.int .i64 0) := (blk_cell BK186.out 2).trans rfl; have hcz23_3 : w22.cell? ⟨gb186, 3, none⟩ = some (.slice none 0 0) := (blk_cell BK186.out 3).trans rfl; have hfz23_0 := blk_frozen BK186.out 0; have hfz23_1 := blk_frozen BK186.out 1; have hfz23_2 := blk_frozen BK186.out 2; have hfz23_3 := blk_frozen BK186.out 3))
      refine bodyPost_ret (results_ct rfl _ _ gb186 24 #[.int .i64 0, .int .i64 0, .int .i64 0, .slice none 0 0] (0, 0) _ rfl (by (with_reducible repeat (first | refine blk_drewN ?_ _ | refine blk_drew ?_ | refine blk_alloc ?_ _)); refine blk_put (cs := #[.int .i64 0, .int .i64 0, .int .i64 0, .slice none 0 0]) ?_ 3 _ rfl; (with_reducible repeat (first | refine blk_drewN ?_ _ | refine blk_drew ?_ | refine blk_alloc ?_ _)); refine blk_put (cs := #[.int .i64 0, .int .i64 0, .int .i64 0, .slice none 0 0]) ?_ 2 _ rfl; (with_reducible repeat (first | refine blk_drewN ?_ _ | refine blk_drew ?_ | refine blk_alloc ?_ _)); refine blk_put (cs := #[.int .i64 0, .int .i64 0, .int .i64 0, .slice none 0 0]) ?_ 1 _ rfl; (with_reducible repeat (first | refine blk_drewN ?_ _ | refine blk_drew ?_ | refine blk_alloc ?_ _)); refine blk_put (cs := #[.int .i64 0, .int .i64 0, .int .i64 0, .slice none 0 0]) ?_ 0 _ rfl; (with_reducible repeat (first | refine blk_drewN ?_ _ | refine blk_drew ?_ | refine blk_alloc ?_ _)); exact BK186.out) Tryz.underlying24 rfl (by kernel_rfl)) rfl ?_
      exact ⟨_, by first | rfl | (simp [errW_none, errW_some] <;> rfl) | (simp [*, errW_none, errW_some] <;> rfl), by first | exact Kd.S_nil _ _ _ _ _ | exact Kd.N_nil _ _ _ _ _ | exact Kd.V_nil _ _ _ _ _ | exact Kd.Q_nil _ _ _ _ _ | exact Kd.R_nil _ _ _ _ _, by repeat (first | (with_reducible first | exact HB.out | apply below_alloc | apply pw_below_drewN | apply below_drew1 | refine below_set ?_ GE185.out | refine below_set ?_ GE186.out) | exact HB.out)⟩
  · rw [if_neg c5] at H
    have c5b0 : (t187 == 0) = false := beq_eq_false_iff_ne.mpr c5
    have c5b1 : (t187 != 0) = true := bne_iff_ne.mpr c5
    simp only [Option.some.injEq, Prod.mk.injEq] at H
    obtain ⟨rfl, rfl, rfl, rfl, rfl⟩ := H
    go_enter Tryz.func14, Tryz.ntmps14
    go_wp2_with (first | ((with_reducible refine gate_dst (N := 3) rfl ?_); refine box_event ?hg (N := 3) ?hd (cs := #[.int .i64 a0_0, .int .i64 a0_1, .int .i64 a0_2, .slice A0_3 l0_3.length c0_3]) (t := 24) ?hr ?_; (case hd => rfl); (case hg => rfl); (case hr => first | (go_simp; done) | (go_simp; rfl)); intro gb185 hg w24 hbox hb; have n0_ := Aside0.mk (below_step (by repeat (first | (with_reducible first | exact HB.out | apply below_alloc | apply pw_below_drewN | apply below_drew1) | exact HB.out)) hb); have n1_ := Aside0.mk (hbox); have n2_ := Aside0.mk ((by rw [hg]; exact (below_size (by repeat (first | (with_reducible first | exact HB.out | apply below_alloc | apply pw_below_drewN | apply below_drew1) | exact HB.out))) : w.heap.size ≤ gb185)); have n3_ := Aside0.mk ((by rw [hg]; exact (below_size (by repeat (first | (with_reducible first | exact HB.out | apply below_alloc | apply pw_below_drewN | apply below_drew1) | exact HB.out))) : w.heap.size ≤ gb185)); clear HB; have HB := n0_; have BK185 := n1_; have GW185 := n2_; have GE185 := n3_; clear n0_ n1_ n2_ n3_; clear hb hbox hg) | ((with_reducible refine gate_dst (N := 6) rfl ?_); refine box_event ?hg (N := 6) ?hd (cs := #[.int .i64 0, .int .i64 0, .int .i64 0, .slice none 0 0]) (t := 24) ?hr ?_; (case hd => rfl); (case hg => rfl); (case hr => first | (go_simp; done) | (go_simp; rfl)); intro gb186 hg w25 hbox hb; have n0_ := Aside0.mk (blk_below (g := gb185) (o := .cells #[.int .i64 a0_0, .int .i64 a0_1, .int .i64 a0_2, .slice A0_3 l0_3.length c0_3] 24 (0, 0)) (by (with_reducible repeat (first | refine blk_drewN ?_ _ | refine blk_drew ?_ | refine blk_alloc ?_ _)); exact BK185.out) hb); have n1_ := Aside0.mk (below_step (by repeat (first | (with_reducible first | exact HB.out | apply below_alloc | apply pw_below_drewN | apply below_drew1 | refine below_set ?_ GE185.out) | exact HB.out)) hb); have n2_ := Aside0.mk (hbox); have n3_ := Aside0.mk ((by rw [hg]; exact (below_size (by repeat (first | (with_reducible first | exact HB.out | apply below_alloc | apply pw_below_drewN | apply below_drew1 | refine below_set ?_ GE185.out) | exact HB.out))) : w.heap.size ≤ gb186)); have n4_ := Aside0.mk ((by rw [hg]; exact (below_size (by repeat (first | (with_reducible first | exact HB.out | apply below_alloc | apply pw_below_drewN | apply below_drew1 | refine below_set ?_ GE185.out) | exact HB.out))) : w.heap.size ≤ gb186)); have n5_ := Aside0.mk ((by rw [hg]; exact Nat.ne_of_lt (blk_lt (g := gb185) (o := .cells #[.int .i64 a0_0, .int .i64 a0_1, .int .i64 a0_2, .slice A0_3 l0_3.length c0_3] 24 (0, 0)) (by (with_reducible repeat (first | refine blk_drewN ?_ _ | refine blk_drew ?_ | refine blk_alloc ?_ _)); exact BK185.out)) : gb185 ≠ gb186)); have n6_ := Aside0.mk ((by rw [hg]; exact Nat.ne_of_gt (blk_lt (g := gb185) (o := .cells #[.int .i64 a0_0, .int .i64 a0_1, .int .i64 a0_2, .slice A0_3 l0_3.length c0_3] 24 (0, 0)) (by (with_reducible repeat (first | refine blk_drewN ?_ _ | refine blk_drew ?_ | refine blk_alloc ?_ _)); exact BK185.out)) : gb186 ≠ gb185)); clear BK185; clear HB; have BK185 := n0_; have HB := n1_; have BK186 := n2_; have GW186 := n3_; have GE186 := n4_; have NB185_186 := n5_; have NB186_185 := n6_; clear n0_ n1_ n2_ n3_ n4_ n5_ n6_; clear hb hbox hg; have hnb26 := NB185_186.out; have hnc26 := NB186_185.out; have hcz27_0 : w25.cell? ⟨gb185, 0, none⟩ = some (.int .i64 a0_0) := (blk_cell BK185.out 0).trans rfl; have hcz27_1 : w25.cell? ⟨gb185, 1, none⟩ = some (.int .i64 a0_1) := (blk_cell BK185.out 1).trans rfl; have hcz27_2 : w25.cell? ⟨gb185, 2, none⟩ = some (.int .i64 a0_2) := (blk_cell BK185.out 2).trans rfl; have hcz27_3 : w25.cell? ⟨gb185, 3, none⟩ = some (.slice A0_3 l0_3.length c0_3) := (blk_cell BK185.out 3).trans rfl; have hfz27_0 := blk_frozen BK185.out 0; have hfz27_1 := blk_frozen BK185.out 1; have hfz27_2 := blk_frozen BK185.out 2; have hfz27_3 := blk_frozen BK185.out 3) | ((with_reducible refine gate_callee (f := 30) rfl ?_); refine goesL_ (some 10) rfl rfl Tryz.func30 (by kernel_rfl) rfl #[.agg #[.int .i64 a0_0, .int .i64 a0_1, .int .i64 a0_2, .slice A0_3 l0_3.length c0_3]] rfl (by (try simp only [List.map_toArray, List.map_cons, List.map_nil]); first | done | rfl | (simp only [List.length_drop, List.length_take]; rfl)) ?_; (with_reducible refine (dioramaref14_Check.calls k a0_0 a0_1 a0_2 _ _ l0_3 t187 _ ?side1 ?side2 A4.out).mono ?_); (case side1 => repeat (first | exact (Kd.C_below HR0_3.out HB.out) | (with_reducible refine Kd.C_alloc ?_ _) | (with_reducible refine Kd.C_drewN ?_ _) | (with_reducible refine Kd.C_drew ?_))); (case side2 => exact HC0_3.out); rintro e w28 ⟨rfl, hb⟩; refine ⟨_, rfl, ?_⟩; have n0_ := Aside0.mk (blk_below (g := gb185) (o := .cells #[.int .i64 a0_0, .int .i64 a0_1, .int .i64 a0_2, .slice A0_3 l0_3.length c0_3] 24 (0, 0)) (by (with_reducible repeat (first | refine blk_drewN ?_ _ | refine blk_drew ?_ | refine blk_alloc ?_ _)); exact BK185.out) hb); have n1_ := Aside0.mk (blk_below (g := gb186) (o := .cells #[.int .i64 0, .int .i64 0, .int .i64 0, .slice none 0 0] 24 (0, 0)) (by (with_reducible repeat (first | refine blk_drewN ?_ _ | refine blk_drew ?_ | refine blk_alloc ?_ _)); exact BK186.out) hb); have n2_ := Aside0.mk (below_step (by repeat (first | (with_reducible first | exact HB.out | apply below_alloc | apply pw_below_drewN | apply below_drew1 | refine below_set ?_ GE185.out | refine below_set ?_ GE186.out) | exact HB.out)) hb); clear BK185; clear BK186; clear HB; have BK185 := n0_; have BK186 := n1_; have HB := n2_; clear n0_ n1_ n2_; (try clear hb); (try clear hb2); (try clear hk); (try clear hi); have hcz29_0 : w28.cell? ⟨gb186, 0, none⟩ = some (.int .i64 0) := (blk_cell BK186.out 0).trans rfl; have hcz29_1 : w28.cell? ⟨gb186, 1, none⟩ = some (.int .i64 0) := (blk_cell BK186.out 1).trans rfl; have hcz29_2 : w28.cell? ⟨gb186, 2, none⟩ = some (.int .i64 0) := (blk_cell BK186.out 2).trans rfl; have hcz29_3 : w28.cell? ⟨gb186, 3, none⟩ = some (.slice none 0 0) := (blk_cell BK186.out 3).trans rfl; have hfz29_0 := blk_frozen BK186.out 0; have hfz29_1 := blk_frozen BK186.out 1; have hfz29_2 := blk_frozen BK186.out 2; have hfz29_3 := blk_frozen BK186.out 3))
    refine bodyPost_ret (results_ct rfl _ _ gb186 24 #[.int .i64 0, .int .i64 0, .int .i64 0, .slice none 0 0] (0, 0) _ rfl (by (with_reducible repeat (first | refine blk_drewN ?_ _ | refine blk_drew ?_ | refine blk_alloc ?_ _)); refine blk_put (cs := #[.int .i64 0, .int .i64 0, .int .i64 0, .slice none 0 0]) ?_ 3 _ rfl; (with_reducible repeat (first | refine blk_drewN ?_ _ | refine blk_drew ?_ | refine blk_alloc ?_ _)); refine blk_put (cs := #[.int .i64 0, .int .i64 0, .int .i64 0, .slice none 0 0]) ?_ 2 _ rfl; (with_reducible repeat (first | refine blk_drewN ?_ _ | refine blk_drew ?_ | refine blk_alloc ?_ _)); refine blk_put (cs := #[.int .i64 0, .int .i64 0, .int .i64 0, .slice none 0 0]) ?_ 1 _ rfl; (with_reducible repeat (first | refine blk_drewN ?_ _ | refine blk_drew ?_ | refine blk_alloc ?_ _)); refine blk_put (cs := #[.int .i64 0, .int .i64 0, .int .i64 0, .slice none 0 0]) ?_ 0 _ rfl; (with_reducible repeat (first | refine blk_drewN ?_ _ | refine blk_drew ?_ | refine blk_alloc ?_ _)); exact BK186.out) Tryz.underlying24 rfl (by kernel_rfl)) rfl ?_
    exact ⟨_, by first | rfl | (simp [errW_none, errW_some] <;> rfl) | (simp [*, errW_none, errW_some] <;> rfl), by first | exact Kd.S_nil _ _ _ _ _ | exact Kd.N_nil _ _ _ _ _ | exact Kd.V_nil _ _ _ _ _ | exact Kd.Q_nil _ _ _ _ _ | exact Kd.R_nil _ _ _ _ _, by repeat (first | (with_reducible first | exact HB.out | apply below_alloc | apply pw_below_drewN | apply below_drew1 | refine below_set ?_ GE185.out | refine below_set ?_ GE186.out) | exact HB.out)⟩
end Go.Proofs.YtphkionjjhhhlaaGreat.Q
end
section
namespace Go.Proofs.YtphkionjjhhhlaaGreat.Q
open Go.RowKit Go.Proofs.YtphkionjjhhhlaaGreatW.PrintWords Go.Proofs.YtphkionjjhhhlaaGreatW.PrintLast Go.Proofs.YtphkionjjhhhlaaGreatW.PrintMore
def item_Turn.f (a0_0 : Int) (a0_1 : Int) (a0_2 : Int) (l0_3 : List (List Int)) (a1 : Int) (a2 : Bool) : Option (Int × Int × Int × (List (List Int)) × Int) := (picture_Check.f a0_0 a0_1 a0_2 l0_3).bind fun t117 => (if t117 = 0 then ((item_within.f a1 0 3).bind fun t118 => (if t118 = true then ((item_turned.f a0_0 a0_1 a0_2 l0_3 a1 a2).bind fun bt119 => (some (bt119.1, bt119.2.1, bt119.2.2.1, bt119.2.2.2, 0))) else (some (0, 0, 0, ([] : List (List Int)), 1)))) else (some (0, 0, 0, ([] : List (List Int)), t117)))
set_option maxHeartbeats 8000000 in
set_option maxRecDepth 100000 in
theorem item_Turn.calls (a0_0 : Int) (a0_1 : Int) (a0_2 : Int) (A0_3 : Option Addr) (c0_3 : Nat) (l0_3 : List (List Int)) (a1 : Int) (a2 : Bool) (r1 : Int) (r2 : Int) (r3 : Int) (r4 : List (List Int)) (r5 : Int) (w : World) (hr0_3 : Kd.C (Kd.slice 3 (Kd.int .i64)) w A0_3 l0_3.length l0_3) (hc0_3 : l0_3.length ≤ c0_3) (h : item_Turn.f a0_0 a0_1 a0_2 l0_3 a1 a2 = some (r1, r2, r3, r4, r5)) :
    Calls Tryz.prog 13 #[.agg #[.int .i64 a0_0, .int .i64 a0_1, .int .i64 a0_2, .slice A0_3 l0_3.length c0_3], .int .i64 a1, .bool a2] w fun e w' => ∃ v3_ : Value, e = .returned (.tuple #[.agg #[.int .i64 r1, .int .i64 r2, .int .i64 r3, v3_], .int .i64 r5]) ∧ Kd.S (Kd.slice 3 (Kd.int .i64)) 39 w' w.heap.size (fun _ => True) v3_ r4 ∧ Below w.heap.size w w' := by
  have hu24 := Tryz.underlying24
  have HR0_3 := Aside0.mk hr0_3
  have HC0_3 := Aside0.mk hc0_3
  clear hr0_3 hc0_3
  have HB := Aside0.mk (Below.refl w.heap.size w)
  have H : ((picture_Check.f a0_0 a0_1 a0_2 l0_3).bind fun t117 => (if t117 = 0 then ((item_within.f a1 0 3).bind fun t118 => (if t118 = true then ((item_turned.f a0_0 a0_1 a0_2 l0_3 a1 a2).bind fun bt119 => (some (bt119.1, bt119.2.1, bt119.2.2.1, bt119.2.2.2, 0))) else (some (0, 0, 0, ([] : List (List Int)), 1)))) else (some (0, 0, 0, ([] : List (List Int)), t117)))) = some (r1, r2, r3, r4, r5) := h
  clear h
  replace H := Option.bind_eq_some_iff.mp H
  obtain ⟨t117, A40, H⟩ := H
  replace H : (if t117 = 0 then ((item_within.f a1 0 3).bind fun t118 => (if t118 = true then ((item_turned.f a0_0 a0_1 a0_2 l0_3 a1 a2).bind fun bt119 => (some (bt119.1, bt119.2.1, bt119.2.2.1, bt119.2.2.2, 0))) else (some (0, 0, 0, ([] : List (List Int)), 1)))) else (some (0, 0, 0, ([] : List (List Int)), t117))) = some (r1, r2, r3, r4, r5) := H
  have A4 := Aside0.mk A40
  clear A40
  by_cases c5 : t117 = 0
  · rw [if_pos c5] at H
    have c5b0 : (t117 == 0) = true := beq_iff_eq.mpr c5
    have c5b1 : (t117 != 0) = false := bne_eq_false_iff_eq.mpr c5
    clear c5
    replace H := Option.bind_eq_some_iff.mp H
    obtain ⟨t118, A60, H⟩ := H
    replace H : (if t118 = true then ((item_turned.f a0_0 a0_1 a0_2 l0_3 a1 a2).bind fun bt119 => (some (bt119.1, bt119.2.1, bt119.2.2.1, bt119.2.2.2, 0))) else (some (0, 0, 0, ([] : List (List Int)), 1))) = some (r1, r2, r3, r4, r5) := H
    have A6 := Aside0.mk A60
    clear A60
    by_cases c7 : t118 = true
    · subst c7
      have H1 : ((item_turned.f a0_0 a0_1 a0_2 l0_3 a1 a2).bind fun bt119 => (some (bt119.1, bt119.2.1, bt119.2.2.1, bt119.2.2.2, 0))) = some (r1, r2, r3, r4, r5) := by rw [if_pos rfl] at H; exact H
      clear H
      have H := H1
      clear H1
      replace H := Option.bind_eq_some_iff.mp H
      obtain ⟨⟨t119, t120, t121, t122⟩, A80, H⟩ := H
      replace H : (some (t119, t120, t121, t122, 0)) = some (r1, r2, r3, r4, r5) := H
      have A8 := Aside0.mk A80
      clear A80
      simp only [Option.some.injEq, Prod.mk.injEq] at H
      obtain ⟨rfl, rfl, rfl, rfl, rfl⟩ := H
      go_enter Tryz.func13, Tryz.ntmps13
      go_wp2_with (first | ((with_reducible refine gate_dst (N := 3) rfl ?_); refine box_event ?hg (N := 3) ?hd (cs := #[.int .i64 a0_0, .int .i64 a0_1, .int .i64 a0_2, .slice A0_3 l0_3.length c0_3]) (t := 24) ?hr ?_; (case hd => rfl); (case hg => rfl); (case hr => first | (go_simp; done) | (go_simp; rfl)); intro gb115 hg w9 hbox hb; have n0_ := Aside0.mk (below_step (by repeat (first | (with_reducible first | exact HB.out | apply below_alloc | apply pw_below_drewN | apply below_drew1) | exact HB.out)) hb); have n1_ := Aside0.mk (hbox); have n2_ := Aside0.mk ((by rw [hg]; exact (below_size (by repeat (first | (with_reducible first | exact HB.out | apply below_alloc | apply pw_below_drewN | apply below_drew1) | exact HB.out))) : w.heap.size ≤ gb115)); have n3_ := Aside0.mk ((by rw [hg]; exact (below_size (by repeat (first | (with_reducible first | exact HB.out | apply below_alloc | apply pw_below_drewN | apply below_drew1) | exact HB.out))) : w.heap.size ≤ gb115)); clear HB; have HB := n0_; have BK115 := n1_; have GW115 := n2_; have GE115 := n3_; clear n0_ n1_ n2_ n3_; clear hb hbox hg) | ((with_reducible refine gate_dst (N := 6) rfl ?_); refine box_event ?hg (N := 6) ?hd (cs := #[.int .i64 0, .int .i64 0, .int .i64 0, .slice none 0 0]) (t := 24) ?hr ?_; (case hd => rfl); (case hg => rfl); (case hr => first | (go_simp; done) | (go_simp; rfl)); intro gb116 hg w10 hbox hb; have n0_ := Aside0.mk (blk_below (g := gb115) (o := .cells #[.int .i64 a0_0, .int .i64 a0_1, .int .i64 a0_2, .slice A0_3 l0_3.length c0_3] 24 (0, 0)) (by (with_reducible repeat (first | refine blk_drewN ?_ _ | refine blk_drew ?_ | refine blk_alloc ?_ _)); exact BK115.out) hb); have n1_ := Aside0.mk (below_step (by repeat (first | (with_reducible first | exact HB.out | apply below_alloc | apply pw_below_drewN | apply below_drew1 | refine below_set ?_ GE115.out) | exact HB.out)) hb); have n2_ := Aside0.mk (hbox); have n3_ := Aside0.mk ((by rw [hg]; exact (below_size (by repeat (first | (with_reducible first | exact HB.out | apply below_alloc | apply pw_below_drewN | apply below_drew1 | refine below_set ?_ GE115.out) | exact HB.out))) : w.heap.size ≤ gb116)); have n4_ := Aside0.mk ((by rw [hg]; exact (below_size (by repeat (first | (with_reducible first | exact HB.out | apply below_alloc | apply pw_below_drewN | apply below_drew1 | refine below_set ?_ GE115.out) | exact HB.out))) : w.heap.size ≤ gb116)); have n5_ := Aside0.mk ((by rw [hg]; exact Nat.ne_of_lt (blk_lt (g := gb115) (o := .cells #[.int .i64 a0_0, .int .i64 a0_1, .int .i64 a0_2, .slice A0_3 l0_3.length c0_3] 24 (0, 0)) (by (with_reducible repeat (first | refine blk_drewN ?_ _ | refine blk_drew ?_ | refine blk_alloc ?_ _)); exact BK115.out)) : gb115 ≠ gb116)); have n6_ := Aside0.mk ((by rw [hg]; exact Nat.ne_of_gt (blk_lt (g := gb115) (o := .cells #[.int .i64 a0_0, .int .i64 a0_1, .int .i64 a0_2, .slice A0_3 l0_3.length c0_3] 24 (0, 0)) (by (with_reducible repeat (first | refine blk_drewN ?_ _ | refine blk_drew ?_ | refine blk_alloc ?_ _)); exact BK115.out)) : gb116 ≠ gb115)); clear BK115; clear HB; have BK115 := n0_; have HB := n1_; have BK116 := n2_; have GW116 := n3_; have GE116 := n4_; have NB115_116 := n5_; have NB116_115 := n6_; clear n0_ n1_ n2_ n3_ n4_ n5_ n6_; clear hb hbox hg; have hnb11 := NB115_116.out; have hnc11 := NB116_115.out; have hcz12_0 : w10.cell? ⟨gb115, 0, none⟩ = some (.int .i64 a0_0) := (blk_cell BK115.out 0).trans rfl; have hcz12_1 : w10.cell? ⟨gb115, 1, none⟩ = some (.int .i64 a0_1) := (blk_cell BK115.out 1).trans rfl; have hcz12_2 : w10.cell? ⟨gb115, 2, none⟩ = some (.int .i64 a0_2) := (blk_cell BK115.out 2).trans rfl; have hcz12_3 : w10.cell? ⟨gb115, 3, none⟩ = some (.slice A0_3 l0_3.length c0_3) := (blk_cell BK115.out 3).trans rfl; have hfz12_0 := blk_frozen BK115.out 0; have hfz12_1 := blk_frozen BK115.out 1; have hfz12_2 := blk_frozen BK115.out 2; have hfz12_3 := blk_frozen BK115.out 3) | ((with_reducible refine gate_callee (f := 47) rfl ?_); refine goesL_ (some 10) rfl rfl Tryz.func47 (by kernel_rfl) rfl #[.agg #[.int .i64 a0_0, .int .i64 a0_1, .int .i64 a0_2, .slice A0_3 l0_3.length c0_3]] rfl (by (try simp only [List.map_toArray, List.map_cons, List.map_nil]); first | done | rfl | (simp only [List.length_drop, List.length_take]; rfl)) ?_; (with_reducible refine (picture_Check.calls a0_0 a0_1 a0_2 _ _ l0_3 t117 _ ?side1 ?side2 A4.out).mono ?_); (case side1 => repeat (first | exact (Kd.C_below HR0_3.out HB.out) | (with_reducible refine Kd.C_alloc ?_ _) | (with_reducible refine Kd.C_drewN ?_ _) | (with_reducible refine Kd.C_drew ?_))); (case side2 => exact HC0_3.out); rintro e w13 ⟨rfl, hb⟩; refine ⟨_, rfl, ?_⟩; have n0_ := Aside0.mk (blk_below (g := gb115) (o := .cells #[.int .i64 a0_0, .int .i64 a0_1, .int .i64 a0_2, .slice A0_3 l0_3.length c0_3] 24 (0, 0)) (by (with_reducible repeat (first | refine blk_drewN ?_ _ | refine blk_drew ?_ | refine blk_alloc ?_ _)); exact BK115.out) hb); have n1_ := Aside0.mk (blk_below (g := gb116) (o := .cells #[.int .i64 0, .int .i64 0, .int .i64 0, .slice none 0 0] 24 (0, 0)) (by (with_reducible repeat (first | refine blk_drewN ?_ _ | refine blk_drew ?_ | refine blk_alloc ?_ _)); exact BK116.out) hb); have n2_ := Aside0.mk (below_step (by repeat (first | (with_reducible first | exact HB.out | apply below_alloc | apply pw_below_drewN | apply below_drew1 | refine below_set ?_ GE115.out | refine below_set ?_ GE116.out) | exact HB.out)) hb); clear BK115; clear BK116; clear HB; have BK115 := n0_; have BK116 := n1_; have HB := n2_; clear n0_ n1_ n2_; (try clear hb); (try clear hb2); (try clear hk); (try clear hi)) | ((with_reducible refine gate_callee (f := 48) rfl ?_); refine goesL_ (some 16) rfl rfl Tryz.func48 (by kernel_rfl) rfl #[.int .i64 a1, .int .i64 0, .int .i64 3] rfl (by (try simp only [List.map_toArray, List.map_cons, List.map_nil]); first | done | rfl | (simp only [List.length_drop, List.length_take]; rfl)) ?_; (with_reducible refine (item_within.calls a1 0 3 true _ A6.out).mono ?_); rintro e w' ⟨rfl, ⟨nd, rfl⟩⟩; refine ⟨_, rfl, ?_⟩; (try (rw [drewN_self w13]; generalize hq_ : World.drewN w13 _ = w13; have n0_ : Aside0 (w13.heap[gb115]? = some (.cells #[.int .i64 a0_0, .int .i64 a0_1, .int .i64 a0_2, .slice A0_3 l0_3.length c0_3] 24 (0, 0))) := ⟨by rw [← hq_]; exact (by (with_reducible repeat (first | refine blk_drewN ?_ _ | refine blk_drew ?_ | refine blk_alloc ?_ _)); exact BK115.out)⟩; have n1_ : Aside0 (w13.heap[gb116]? = some (.cells #[.int .i64 0, .int .i64 0, .int .i64 0, .slice none 0 0] 24 (0, 0))) := ⟨by rw [← hq_]; exact (by (with_reducible repeat (first | refine blk_drewN ?_ _ | refine blk_drew ?_ | refine blk_alloc ?_ _)); exact BK116.out)⟩; have n2_ : Aside0 (Below w.heap.size w w13) := ⟨by rw [← hq_]; exact (by repeat (first | (with_reducible first | exact HB.out | apply below_alloc | apply pw_below_drewN | apply below_drew1 | refine below_set ?_ GE115.out | refine below_set ?_ GE116.out) | exact HB.out))⟩; clear BK115 BK116 HB hq_; have BK115 := n0_; have BK116 := n1_; have HB := n2_; clear n0_ n1_ n2_)); have hcz14_0 : w13.cell? ⟨gb115, 0, none⟩ = some (.int .i64 a0_0) := (blk_cell BK115.out 0).trans rfl; have hcz14_1 : w13.cell? ⟨gb115, 1, none⟩ = some (.int .i64 a0_1) := (blk_cell BK115.out 1).trans rfl; have hcz14_2 : w13.cell? ⟨gb115, 2, none⟩ = some (.int .i64 a0_2) := (blk_cell BK115.out 2).trans rfl; have hcz14_3 : w13.cell? ⟨gb115, 3, none⟩ = some (.slice A0_3 l0_3.length c0_3) := (blk_cell BK115.out 3).trans rfl; have hfz14_0 := blk_frozen BK115.out 0; have hfz14_1 := blk_frozen BK115.out 1; have hfz14_2 := blk_frozen BK115.out 2; have hfz14_3 := blk_frozen BK115.out 3) | ((with_reducible refine gate_callee (f := 49) rfl ?_); refine goesL_ (some 22) rfl rfl Tryz.func49 (by kernel_rfl) rfl #[.agg #[.int .i64 a0_0, .int .i64 a0_1, .int .i64 a0_2, .slice A0_3 l0_3.length c0_3], .int .i64 a1, .bool a2] rfl (by (try simp only [List.map_toArray, List.map_cons, List.map_nil]); first | done | rfl | (simp only [List.length_drop, List.length_take]; rfl)) ?_; (with_reducible refine (item_turned.calls a0_0 a0_1 a0_2 _ _ l0_3 a1 a2 t119 t120 t121 t122 _ ?side1 ?side2 A8.out).mono ?_); (case side1 => repeat (first | exact (Kd.C_below HR0_3.out HB.out) | (with_reducible refine Kd.C_alloc ?_ _) | (with_reducible refine Kd.C_drewN ?_ _) | (with_reducible refine Kd.C_drew ?_))); (case side2 => exact HC0_3.out); rintro e w15 ⟨v123, rfl, ho0, hb⟩; refine ⟨_, rfl, ?_⟩; have n0_ := Aside0.mk (Kd.S_lower ho0 (below_size (by repeat (first | (with_reducible first | exact HB.out | apply below_alloc | apply pw_below_drewN | apply below_drew1 | refine below_set ?_ GE115.out | refine below_set ?_ GE116.out) | exact HB.out)))); have n1_ := Aside0.mk (blk_below (g := gb115) (o := .cells #[.int .i64 a0_0, .int .i64 a0_1, .int .i64 a0_2, .slice A0_3 l0_3.length c0_3] 24 (0, 0)) (by (with_reducible repeat (first | refine blk_drewN ?_ _ | refine blk_drew ?_ | refine blk_alloc ?_ _)); exact BK115.out) hb); have n2_ := Aside0.mk (blk_below (g := gb116) (o := .cells #[.int .i64 0, .int .i64 0, .int .i64 0, .slice none 0 0] 24 (0, 0)) (by (with_reducible repeat (first | refine blk_drewN ?_ _ | refine blk_drew ?_ | refine blk_alloc ?_ _)); exact BK116.out) hb); have n3_ := Aside0.mk (below_step (by repeat (first | (with_reducible first | exact HB.out | apply below_alloc | apply pw_below_drewN | apply below_drew1 | refine below_set ?_ GE115.out | refine below_set ?_ GE116.out) | exact HB.out)) hb); clear BK115; clear BK116; clear HB; have HO124 := n0_; have BK115 := n1_; have BK116 := n2_; have HB := n3_; clear n0_ n1_ n2_ n3_; (try clear hb); (try clear hb2); (try clear hk); (try clear hi); (try clear ho0); have hcz16_0 : w15.cell? ⟨gb116, 0, none⟩ = some (.int .i64 0) := (blk_cell BK116.out 0).trans rfl; have hcz16_1 : w15.cell? ⟨gb116, 1, none⟩ = some (.int .i64 0) := (blk_cell BK116.out 1).trans rfl; have hcz16_2 : w15.cell? ⟨gb116, 2, none⟩ = some (.int .i64 0) := (blk_cell BK116.out 2).trans rfl; have hcz16_3 : w15.cell? ⟨gb116, 3, none⟩ = some (.slice none 0 0) := (blk_cell BK116.out 3).trans rfl; have hfz16_0 := blk_frozen BK116.out 0; have hfz16_1 := blk_frozen BK116.out 1; have hfz16_2 := blk_frozen BK116.out 2; have hfz16_3 := blk_frozen BK116.out 3; obtain ⟨Ao17, co17, eo17⟩ := Kd.S_slice HO124.out; subst eo17))
      refine bodyPost_ret (results_ct rfl _ _ gb116 24 #[.int .i64 t119, .int .i64 t120, .int .i64 t121, .slice Ao17 t122.length co17] (0, 0) _ rfl (by (with_reducible repeat (first | refine blk_drewN ?_ _ | refine blk_drew ?_ | refine blk_alloc ?_ _)); refine blk_put (cs := #[.int .i64 t119, .int .i64 t120, .int .i64 t121, .slice none 0 0]) ?_ 3 _ rfl; (with_reducible repeat (first | refine blk_drewN ?_ _ | refine blk_drew ?_ | refine blk_alloc ?_ _)); refine blk_put (cs := #[.int .i64 t119, .int .i64 t120, .int .i64 0, .slice none 0 0]) ?_ 2 _ rfl; (with_reducible repeat (first | refine blk_drewN ?_ _ | refine blk_drew ?_ | refine blk_alloc ?_ _)); refine blk_put (cs := #[.int .i64 t119, .int .i64 0, .int .i64 0, .slice none 0 0]) ?_ 1 _ rfl; (with_reducible repeat (first | refine blk_drewN ?_ _ | refine blk_drew ?_ | refine blk_alloc ?_ _)); refine blk_put (cs := #[.int .i64 0, .int .i64 0, .int .i64 0, .slice none 0 0]) ?_ 0 _ rfl; (with_reducible repeat (first | refine blk_drewN ?_ _ | refine blk_drew ?_ | refine blk_alloc ?_ _)); exact BK116.out) Tryz.underlying24 rfl (by kernel_rfl)) rfl ?_
      exact ⟨_, by first | rfl | (simp [errW_none, errW_some] <;> rfl) | (simp [*, errW_none, errW_some] <;> rfl), by (with_reducible repeat (first | apply Kd.S_alloc | apply Kd.S_drewN | apply Kd.S_drew)); exact Kd.S_mono (Kd.S_far (p := ⟨gb116, 3, none⟩) (Kd.S_far (p := ⟨gb116, 2, none⟩) (Kd.S_far (p := ⟨gb116, 1, none⟩) (Kd.S_far (p := ⟨gb116, 0, none⟩) (Kd.S_types HO124.out BK116.out (by decide)) (fun _ hk => hk.2) (.int .i64 t119)) (fun _ hk => hk.2) (.int .i64 t120)) (fun _ hk => hk.2) (.int .i64 t121)) (fun _ hk => hk.2) (.slice Ao17 t122.length co17)) (fun _ hk => trivial), by repeat (first | (with_reducible first | exact HB.out | apply below_alloc | apply pw_below_drewN | apply below_drew1 | refine below_set ?_ GE115.out | refine below_set ?_ GE116.out) | exact HB.out)⟩
    · replace c7 := Bool.eq_false_iff.mpr c7
      subst c7
      have H1 : (some (0, 0, 0, ([] : List (List Int)), 1)) = some (r1, r2, r3, r4, r5) := by rw [if_neg (show ¬ (false = true) by decide)] at H; exact H
      clear H
      have H := H1
      clear H1
      simp only [Option.some.injEq, Prod.mk.injEq] at H
      obtain ⟨rfl, rfl, rfl, rfl, rfl⟩ := H
      go_enter Tryz.func13, Tryz.ntmps13
      go_wp2_with (first | ((with_reducible refine gate_dst (N := 3) rfl ?_); refine box_event ?hg (N := 3) ?hd (cs := #[.int .i64 a0_0, .int .i64 a0_1, .int .i64 a0_2, .slice A0_3 l0_3.length c0_3]) (t := 24) ?hr ?_; (case hd => rfl); (case hg => rfl); (case hr => first | (go_simp; done) | (go_simp; rfl)); intro gb115 hg w18 hbox hb; have n0_ := Aside0.mk (below_step (by repeat (first | (with_reducible first | exact HB.out | apply below_alloc | apply pw_below_drewN | apply below_drew1) | exact HB.out)) hb); have n1_ := Aside0.mk (hbox); have n2_ := Aside0.mk ((by rw [hg]; exact (below_size (by repeat (first | (with_reducible first | exact HB.out | apply below_alloc | apply pw_below_drewN | apply below_drew1) | exact HB.out))) : w.heap.size ≤ gb115)); have n3_ := Aside0.mk ((by rw [hg]; exact (below_size (by repeat (first | (with_reducible first | exact HB.out | apply below_alloc | apply pw_below_drewN | apply below_drew1) | exact HB.out))) : w.heap.size ≤ gb115)); clear HB; have HB := n0_; have BK115 := n1_; have GW115 := n2_; have GE115 := n3_; clear n0_ n1_ n2_ n3_; clear hb hbox hg) | ((with_reducible refine gate_dst (N := 6) rfl ?_); refine box_event ?hg (N := 6) ?hd (cs := #[.int .i64 0, .int .i64 0, .int .i64 0, .slice none 0 0]) (t := 24) ?hr ?_; (case hd => rfl); (case hg => rfl); (case hr => first | (go_simp; done) | (go_simp; rfl)); intro gb116 hg w19 hbox hb; have n0_ := Aside0.mk (blk_below (g := gb115) (o := .cells #[.int .i64 a0_0, .int .i64 a0_1, .int .i64 a0_2, .slice A0_3 l0_3.length c0_3] 24 (0, 0)) (by (with_reducible repeat (first | refine blk_drewN ?_ _ | refine blk_drew ?_ | refine blk_alloc ?_ _)); exact BK115.out) hb); have n1_ := Aside0.mk (below_step (by repeat (first | (with_reducible first | exact HB.out | apply below_alloc | apply pw_below_drewN | apply below_drew1 | refine below_set ?_ GE115.out) | exact HB.out)) hb); have n2_ := Aside0.mk (hbox); have n3_ := Aside0.mk ((by rw [hg]; exact (below_size (by repeat (first | (with_reducible first | exact HB.out | apply below_alloc | apply pw_below_drewN | apply below_drew1 | refine below_set ?_ GE115.out) | exact HB.out))) : w.heap.size ≤ gb116)); have n4_ := Aside0.mk ((by rw [hg]; exact (below_size (by repeat (first | (with_reducible first | exact HB.out | apply below_alloc | apply pw_below_drewN | apply below_drew1 | refine below_set ?_ GE115.out) | exact HB.out))) : w.heap.size ≤ gb116)); have n5_ := Aside0.mk ((by rw [hg]; exact Nat.ne_of_lt (blk_lt (g := gb115) (o := .cells #[.int .i64 a0_0, .int .i64 a0_1, .int .i64 a0_2, .slice A0_3 l0_3.length c0_3] 24 (0, 0)) (by (with_reducible repeat (first | refine blk_drewN ?_ _ | refine blk_drew ?_ | refine blk_alloc ?_ _)); exact BK115.out)) : gb115 ≠ gb116)); have n6_ := Aside0.mk ((by rw [hg]; exact Nat.ne_of_gt (blk_lt (g := gb115) (o := .cells #[.int .i64 a0_0, .int .i64 a0_1, .int .i64 a0_2, .slice A0_3 l0_3.length c0_3] 24 (0, 0)) (by (with_reducible repeat (first | refine blk_drewN ?_ _ | refine blk_drew ?_ | refine blk_alloc ?_ _)); exact BK115.out)) : gb116 ≠ gb115)); clear BK115; clear HB; have BK115 := n0_; have HB := n1_; have BK116 := n2_; have GW116 := n3_; have GE116 := n4_; have NB115_116 := n5_; have NB116_115 := n6_; clear n0_ n1_ n2_ n3_ n4_ n5_ n6_; clear hb hbox hg; have hnb20 := NB115_116.out; have hnc20 := NB116_115.out; have hcz21_0 : w19.cell? ⟨gb115, 0, none⟩ = some (.int .i64 a0_0) := (blk_cell BK115.out 0).trans rfl; have hcz21_1 : w19.cell? ⟨gb115, 1, none⟩ = some (.int .i64 a0_1) := (blk_cell BK115.out 1).trans rfl; have hcz21_2 : w19.cell? ⟨gb115, 2, none⟩ = some (.int .i64 a0_2) := (blk_cell BK115.out 2).trans rfl; have hcz21_3 : w19.cell? ⟨gb115, 3, none⟩ = some (.slice A0_3 l0_3.length c0_3) := (blk_cell BK115.out 3).trans rfl; have hfz21_0 := blk_frozen BK115.out 0; have hfz21_1 := blk_frozen BK115.out 1; have hfz21_2 := blk_frozen BK115.out 2; have hfz21_3 := blk_frozen BK115.out 3) | ((with_reducible refine gate_callee (f := 47) rfl ?_); refine goesL_ (some 10) rfl rfl Tryz.func47 (by kernel_rfl) rfl #[.agg #[.int .i64 a0_0, .int .i64 a0_1, .int .i64 a0_2, .slice A0_3 l0_3.length c0_3]] rfl (by (try simp only [List.map_toArray, List.map_cons, List.map_nil]); first | done | rfl | (simp only [List.length_drop, List.length_take]; rfl)) ?_; (with_reducible refine (picture_Check.calls a0_0 a0_1 a0_2 _ _ l0_3 t117 _ ?side1 ?side2 A4.out).mono ?_); (case side1 => repeat (first | exact (Kd.C_below HR0_3.out HB.out) | (with_reducible refine Kd.C_alloc ?_ _) | (with_reducible refine Kd.C_drewN ?_ _) | (with_reducible refine Kd.C_drew ?_))); (case side2 => exact HC0_3.out); rintro e w22 ⟨rfl, hb⟩; refine ⟨_, rfl, ?_⟩; have n0_ := Aside0.mk (blk_below (g := gb115) (o := .cells #[.int .i64 a0_0, .int .i64 a0_1, .int .i64 a0_2, .slice A0_3 l0_3.length c0_3] 24 (0, 0)) (by (with_reducible repeat (first | refine blk_drewN ?_ _ | refine blk_drew ?_ | refine blk_alloc ?_ _)); exact BK115.out) hb); have n1_ := Aside0.mk (blk_below (g := gb116) (o := .cells #[.int .i64 0, .int .i64 0, .int .i64 0, .slice none 0 0] 24 (0, 0)) (by (with_reducible repeat (first | refine blk_drewN ?_ _ | refine blk_drew ?_ | refine blk_alloc ?_ _)); exact BK116.out) hb); have n2_ := Aside0.mk (below_step (by repeat (first | (with_reducible first | exact HB.out | apply below_alloc | apply pw_below_drewN | apply below_drew1 | refine below_set ?_ GE115.out | refine below_set ?_ GE116.out) | exact HB.out)) hb); clear BK115; clear BK116; clear HB; have BK115 := n0_; have BK116 := n1_; have HB := n2_; clear n0_ n1_ n2_; (try clear hb); (try clear hb2); (try clear hk); (try clear hi)) | ((with_reducible refine gate_callee (f := 48) rfl ?_); refine goesL_ (some 16) rfl rfl Tryz.func48 (by kernel_rfl) rfl #[.int .i64 a1, .int .i64 0, .int .i64 3] rfl (by (try simp only [List.map_toArray, List.map_cons, List.map_nil]); first | done | rfl | (simp only [List.length_drop, List.length_take]; rfl)) ?_; (with_reducible refine (item_within.calls a1 0 3 false _ A6.out).mono ?_); rintro e w' ⟨rfl, ⟨nd, rfl⟩⟩; refine ⟨_, rfl, ?_⟩; (try (rw [drewN_self w22]; generalize hq_ : World.drewN w22 _ = w22; have n0_ : Aside0 (w22.heap[gb115]? = some (.cells #[.int .i64 a0_0, .int .i64 a0_1, .int .i64 a0_2, .slice A0_3 l0_3.length c0_3] 24 (0, 0))) := ⟨by rw [← hq_]; exact (by (with_reducible repeat (first | refine blk_drewN ?_ _ | refine blk_drew ?_ | refine blk_alloc ?_ _)); exact BK115.out)⟩; have n1_ : Aside0 (w22.heap[gb116]? = some (.cells #[.int .i64 0, .int .i64 0, .int .i64 0, .slice none 0 0] 24 (0, 0))) := ⟨by rw [← hq_]; exact (by (with_reducible repeat (first | refine blk_drewN ?_ _ | refine blk_drew ?_ | refine blk_alloc ?_ _)); exact BK116.out)⟩; have n2_ : Aside0 (Below w.heap.size w w22) := ⟨by rw [← hq_]; exact (by repeat (first | (with_reducible first | exact HB.out | apply below_alloc | apply pw_below_drewN | apply below_drew1 | refine below_set ?_ GE115.out | refine below_set ?_ GE116.out) | exact HB.out))⟩; clear BK115 BK116 HB hq_; have BK115 := n0_; have BK116 := n1_; have HB := n2_; clear n0_ n1_ n2_)); have hcz23_0 : w22.cell? ⟨gb116, 0, none⟩ = some (.int .i64 0) := (blk_cell BK116.out 0).trans rfl; have hcz23_1 : w22.cell? ⟨gb116, 1, none⟩ = some (.int .i64 0) := (blk_cell BK116.out 1).trans rfl; have hcz23_2 : w22.cell? ⟨gb116, 2, none⟩ = some (.int .i64 0) := (blk_cell BK116.out 2).trans rfl; have hcz23_3 : w22.cell? ⟨gb116, 3, none⟩ = some (.slice none 0 0) := (blk_cell BK116.out 3).trans rfl; have hfz23_0 := blk_frozen BK116.out 0; have hfz23_1 := blk_frozen BK116.out 1; have hfz23_2 := blk_frozen BK116.out 2; have hfz23_3 := blk_frozen BK116.out 3))
      refine bodyPost_ret (results_ct rfl _ _ gb116 24 #[.int .i64 0, .int .i64 0, .int .i64 0, .slice none 0 0] (0, 0) _ rfl (by (with_reducible repeat (first | refine blk_drewN ?_ _ | refine blk_drew ?_ | refine blk_alloc ?_ _)); refine blk_put (cs := #[.int .i64 0, .int .i64 0, .int .i64 0, .slice none 0 0]) ?_ 3 _ rfl; (with_reducible repeat (first | refine blk_drewN ?_ _ | refine blk_drew ?_ | refine blk_alloc ?_ _)); refine blk_put (cs := #[.int .i64 0, .int .i64 0, .int .i64 0, .slice none 0 0]) ?_ 2 _ rfl; (with_reducible repeat (first | refine blk_drewN ?_ _ | refine blk_drew ?_ | refine blk_alloc ?_ _)); refine blk_put (cs := #[.int .i64 0, .int .i64 0, .int .i64 0, .slice none 0 0]) ?_ 1 _ rfl; (with_reducible repeat (first | refine blk_drewN ?_ _ | refine blk_drew ?_ | refine blk_alloc ?_ _)); refine blk_put (cs := #[.int .i64 0, .int .i64 0, .int .i64 0, .slice none 0 0]) ?_ 0 _ rfl; (with_reducible repeat (first | refine blk_drewN ?_ _ | refine blk_drew ?_ | refine blk_alloc ?_ _)); exact BK116.out) Tryz.underlying24 rfl (by kernel_rfl)) rfl ?_
      exact ⟨_, by first | rfl | (simp [errW_none, errW_some] <;> rfl) | (simp [*, errW_none, errW_some] <;> rfl), by first | exact Kd.S_nil _ _ _ _ _ | exact Kd.N_nil _ _ _ _ _ | exact Kd.V_nil _ _ _ _ _ | exact Kd.Q_nil _ _ _ _ _ | exact Kd.R_nil _ _ _ _ _, by repeat (first | (with_reducible first | exact HB.out | apply below_alloc | apply pw_below_drewN | apply below_drew1 | refine below_set ?_ GE115.out | refine below_set ?_ GE116.out) | exact HB.out)⟩
  · rw [if_neg c5] at H
    have c5b0 : (t117 == 0) = false := beq_eq_false_iff_ne.mpr c5
    have c5b1 : (t117 != 0) = true := bne_iff_ne.mpr c5
    simp only [Option.some.injEq, Prod.mk.injEq] at H
    obtain ⟨rfl, rfl, rfl, rfl, rfl⟩ := H
    go_enter Tryz.func13, Tryz.ntmps13
    go_wp2_with (first | ((with_reducible refine gate_dst (N := 3) rfl ?_); refine box_event ?hg (N := 3) ?hd (cs := #[.int .i64 a0_0, .int .i64 a0_1, .int .i64 a0_2, .slice A0_3 l0_3.length c0_3]) (t := 24) ?hr ?_; (case hd => rfl); (case hg => rfl); (case hr => first | (go_simp; done) | (go_simp; rfl)); intro gb115 hg w24 hbox hb; have n0_ := Aside0.mk (below_step (by repeat (first | (with_reducible first | exact HB.out | apply below_alloc | apply pw_below_drewN | apply below_drew1) | exact HB.out)) hb); have n1_ := Aside0.mk (hbox); have n2_ := Aside0.mk ((by rw [hg]; exact (below_size (by repeat (first | (with_reducible first | exact HB.out | apply below_alloc | apply pw_below_drewN | apply below_drew1) | exact HB.out))) : w.heap.size ≤ gb115)); have n3_ := Aside0.mk ((by rw [hg]; exact (below_size (by repeat (first | (with_reducible first | exact HB.out | apply below_alloc | apply pw_below_drewN | apply below_drew1) | exact HB.out))) : w.heap.size ≤ gb115)); clear HB; have HB := n0_; have BK115 := n1_; have GW115 := n2_; have GE115 := n3_; clear n0_ n1_ n2_ n3_; clear hb hbox hg) | ((with_reducible refine gate_dst (N := 6) rfl ?_); refine box_event ?hg (N := 6) ?hd (cs := #[.int .i64 0, .int .i64 0, .int .i64 0, .slice none 0 0]) (t := 24) ?hr ?_; (case hd => rfl); (case hg => rfl); (case hr => first | (go_simp; done) | (go_simp; rfl)); intro gb116 hg w25 hbox hb; have n0_ := Aside0.mk (blk_below (g := gb115) (o := .cells #[.int .i64 a0_0, .int .i64 a0_1, .int .i64 a0_2, .slice A0_3 l0_3.length c0_3] 24 (0, 0)) (by (with_reducible repeat (first | refine blk_drewN ?_ _ | refine blk_drew ?_ | refine blk_alloc ?_ _)); exact BK115.out) hb); have n1_ := Aside0.mk (below_step (by repeat (first | (with_reducible first | exact HB.out | apply below_alloc | apply pw_below_drewN | apply below_drew1 | refine below_set ?_ GE115.out) | exact HB.out)) hb); have n2_ := Aside0.mk (hbox); have n3_ := Aside0.mk ((by rw [hg]; exact (below_size (by repeat (first | (with_reducible first | exact HB.out | apply below_alloc | apply pw_below_drewN | apply below_drew1 | refine below_set ?_ GE115.out) | exact HB.out))) : w.heap.size ≤ gb116)); have n4_ := Aside0.mk ((by rw [hg]; exact (below_size (by repeat (first | (with_reducible first | exact HB.out | apply below_alloc | apply pw_below_drewN | apply below_drew1 | refine below_set ?_ GE115.out) | exact HB.out))) : w.heap.size ≤ gb116)); have n5_ := Aside0.mk ((by rw [hg]; exact Nat.ne_of_lt (blk_lt (g := gb115) (o := .cells #[.int .i64 a0_0, .int .i64 a0_1, .int .i64 a0_2, .slice A0_3 l0_3.length c0_3] 24 (0, 0)) (by (with_reducible repeat (first | refine blk_drewN ?_ _ | refine blk_drew ?_ | refine blk_alloc ?_ _)); exact BK115.out)) : gb115 ≠ gb116)); have n6_ := Aside0.mk ((by rw [hg]; exact Nat.ne_of_gt (blk_lt (g := gb115) (o := .cells #[.int .i64 a0_0, .int .i64 a0_1, .int .i64 a0_2, .slice A0_3 l0_3.length c0_3] 24 (0, 0)) (by (with_reducible repeat (first | refine blk_drewN ?_ _ | refine blk_drew ?_ | refine blk_alloc ?_ _)); exact BK115.out)) : gb116 ≠ gb115)); clear BK115; clear HB; have BK115 := n0_; have HB := n1_; have BK116 := n2_; have GW116 := n3_; have GE116 := n4_; have NB115_116 := n5_; have NB116_115 := n6_; clear n0_ n1_ n2_ n3_ n4_ n5_ n6_; clear hb hbox hg; have hnb26 := NB115_116.out; have hnc26 := NB116_115.out; have hcz27_0 : w25.cell? ⟨gb115, 0, none⟩ = some (.int .i64 a0_0) := (blk_cell BK115.out 0).trans rfl; have hcz27_1 : w25.cell? ⟨gb115, 1, none⟩ = some (.int .i64 a0_1) := (blk_cell BK115.out 1).trans rfl; have hcz27_2 : w25.cell? ⟨gb115, 2, none⟩ = some (.int .i64 a0_2) := (blk_cell BK115.out 2).trans rfl; have hcz27_3 : w25.cell? ⟨gb115, 3, none⟩ = some (.slice A0_3 l0_3.length c0_3) := (blk_cell BK115.out 3).trans rfl; have hfz27_0 := blk_frozen BK115.out 0; have hfz27_1 := blk_frozen BK115.out 1; have hfz27_2 := blk_frozen BK115.out 2; have hfz27_3 := blk_frozen BK115.out 3) | ((with_reducible refine gate_callee (f := 47) rfl ?_); refine goesL_ (some 10) rfl rfl Tryz.func47 (by kernel_rfl) rfl #[.agg #[.int .i64 a0_0, .int .i64 a0_1, .int .i64 a0_2, .slice A0_3 l0_3.length c0_3]] rfl (by (try simp only [List.map_toArray, List.map_cons, List.map_nil]); first | done | rfl | (simp only [List.length_drop, List.length_take]; rfl)) ?_; (with_reducible refine (picture_Check.calls a0_0 a0_1 a0_2 _ _ l0_3 t117 _ ?side1 ?side2 A4.out).mono ?_); (case side1 => repeat (first | exact (Kd.C_below HR0_3.out HB.out) | (with_reducible refine Kd.C_alloc ?_ _) | (with_reducible refine Kd.C_drewN ?_ _) | (with_reducible refine Kd.C_drew ?_))); (case side2 => exact HC0_3.out); rintro e w28 ⟨rfl, hb⟩; refine ⟨_, rfl, ?_⟩; have n0_ := Aside0.mk (blk_below (g := gb115) (o := .cells #[.int .i64 a0_0, .int .i64 a0_1, .int .i64 a0_2, .slice A0_3 l0_3.length c0_3] 24 (0, 0)) (by (with_reducible repeat (first | refine blk_drewN ?_ _ | refine blk_drew ?_ | refine blk_alloc ?_ _)); exact BK115.out) hb); have n1_ := Aside0.mk (blk_below (g := gb116) (o := .cells #[.int .i64 0, .int .i64 0, .int .i64 0, .slice none 0 0] 24 (0, 0)) (by (with_reducible repeat (first | refine blk_drewN ?_ _ | refine blk_drew ?_ | refine blk_alloc ?_ _)); exact BK116.out) hb); have n2_ := Aside0.mk (below_step (by repeat (first | (with_reducible first | exact HB.out | apply below_alloc | apply pw_below_drewN | apply below_drew1 | refine below_set ?_ GE115.out | refine below_set ?_ GE116.out) | exact HB.out)) hb); clear BK115; clear BK116; clear HB; have BK115 := n0_; have BK116 := n1_; have HB := n2_; clear n0_ n1_ n2_; (try clear hb); (try clear hb2); (try clear hk); (try clear hi); have hcz29_0 : w28.cell? ⟨gb116, 0, none⟩ = some (.int .i64 0) := (blk_cell BK116.out 0).trans rfl; have hcz29_1 : w28.cell? ⟨gb116, 1, none⟩ = some (.int .i64 0) := (blk_cell BK116.out 1).trans rfl; have hcz29_2 : w28.cell? ⟨gb116, 2, none⟩ = some (.int .i64 0) := (blk_cell BK116.out 2).trans rfl; have hcz29_3 : w28.cell? ⟨gb116, 3, none⟩ = some (.slice none 0 0) := (blk_cell BK116.out 3).trans rfl; have hfz29_0 := blk_frozen BK116.out 0; have hfz29_1 := blk_frozen BK116.out 1; have hfz29_2 := blk_frozen BK116.out 2; have hfz29_3 := blk_frozen BK116.out 3))
    refine bodyPost_ret (results_ct rfl _ _ gb116 24 #[.int .i64 0, .int .i64 0, .int .i64 0, .slice none 0 0] (0, 0) _ rfl (by (with_reducible repeat (first | refine blk_drewN ?_ _ | refine blk_drew ?_ | refine blk_alloc ?_ _)); refine blk_put (cs := #[.int .i64 0, .int .i64 0, .int .i64 0, .slice none 0 0]) ?_ 3 _ rfl; (with_reducible repeat (first | refine blk_drewN ?_ _ | refine blk_drew ?_ | refine blk_alloc ?_ _)); refine blk_put (cs := #[.int .i64 0, .int .i64 0, .int .i64 0, .slice none 0 0]) ?_ 2 _ rfl; (with_reducible repeat (first | refine blk_drewN ?_ _ | refine blk_drew ?_ | refine blk_alloc ?_ _)); refine blk_put (cs := #[.int .i64 0, .int .i64 0, .int .i64 0, .slice none 0 0]) ?_ 1 _ rfl; (with_reducible repeat (first | refine blk_drewN ?_ _ | refine blk_drew ?_ | refine blk_alloc ?_ _)); refine blk_put (cs := #[.int .i64 0, .int .i64 0, .int .i64 0, .slice none 0 0]) ?_ 0 _ rfl; (with_reducible repeat (first | refine blk_drewN ?_ _ | refine blk_drew ?_ | refine blk_alloc ?_ _)); exact BK116.out) Tryz.underlying24 rfl (by kernel_rfl)) rfl ?_
    exact ⟨_, by first | rfl | (simp [errW_none, errW_some] <;> rfl) | (simp [*, errW_none, errW_some] <;> rfl), by first | exact Kd.S_nil _ _ _ _ _ | exact Kd.N_nil _ _ _ _ _ | exact Kd.V_nil _ _ _ _ _ | exact Kd.Q_nil _ _ _ _ _ | exact Kd.R_nil _ _ _ _ _, by repeat (first | (with_reducible first | exact HB.out | apply below_alloc | apply pw_below_drewN | apply below_drew1 | refine below_set ?_ GE115.out | refine below_set ?_ GE116.out) | exact HB.out)⟩
end Go.Proofs.YtphkionjjhhhlaaGreat.Q
end
section
namespace Go.Proofs.YtphkionjjhhhlaaGreat.Q
open Go.RowKit Go.Proofs.YtphkionjjhhhlaaGreatW.PrintWords Go.Proofs.YtphkionjjhhhlaaGreatW.PrintLast Go.Proofs.YtphkionjjhhhlaaGreatW.PrintMore
theorem eq_ints (l : List Int) (hl : l.length ≤ 10000000) : ∀ (n j : Nat), j + n = l.length → Ev fun k => dioramaref00_EqInts.l0 k l l j = some true := by
  intro n
  induction n with
  | zero =>
    intro j hj
    refine Ev.const (fun k => ?_)
    rw [dioramaref00_EqInts.l0, if_neg (by omega)]
  | succ n ih =>
    intro j hj
    refine Ev.step (fun k => ?_) (ih (j + 1) (by omega))
    rw [dioramaref00_EqInts.l0, if_pos (by omega), if_pos (by omega), if_pos (by omega), if_pos rfl, w64_succ j (by omega)]
theorem eq_rows (ps : List (List Int)) (hn : ps.length ≤ 1000) (hr : ∀ r ∈ ps, r.length ≤ 10000000) : ∀ (n j : Nat), j + n = ps.length → Ev fun k => dioramaref00_EqRows.l0 k ps ps j = some true := by
  intro n
  induction n with
  | zero =>
    intro j hj
    refine Ev.const (fun k => ?_)
    rw [dioramaref00_EqRows.l0, if_neg (by omega)]
  | succ n ih =>
    intro j hj
    have hjl : j < ps.length := by omega
    have hx : ps[j]? = some ps[j] := List.getElem?_eq_getElem hjl
    have hrl := hr _ (List.getElem_mem hjl)
    refine Ev.step (g := fun k => (dioramaref00_EqInts.f k ps[j] ps[j]).bind fun t => if t = true then dioramaref00_EqRows.l0 k ps ps ((j + 1 : Nat) : Int) else some false) (fun k => ?_) (Ev.bind (x := true) ?_ ?_)
    · rw [dioramaref00_EqRows.l0, if_pos (by omega), if_pos (by omega), if_pos (by omega), w64_succ j (by omega), rdL1_at ps j _ hx]
    · obtain ⟨K, hK⟩ := eq_ints ps[j] hrl ps[j].length 0 (by omega)
      refine ⟨K, fun k hk => ?_⟩
      show dioramaref00_EqInts.f k ps[j] ps[j] = some true
      unfold dioramaref00_EqInts.f
      rw [if_pos rfl]
      exact hK k hk
    · exact (ih (j + 1) (by omega)).mono (fun k hk => by rw [if_pos rfl]; exact hk)
theorem eq_image (a b c : Int) (ps : List (List Int)) (hn : ps.length ≤ 1000) (hr : ∀ r ∈ ps, r.length ≤ 10000000) : Ev fun k => dioramaref00_EqImage.f k a b c ps a b c ps = some true := by
  obtain ⟨K, hK⟩ := eq_rows ps hn hr ps.length 0 (by omega)
  refine ⟨K, fun k hk => ?_⟩
  show dioramaref00_EqImage.f k a b c ps a b c ps = some true
  have h1 : dioramaref00_EqRows.f k ps ps = some true := by
    unfold dioramaref00_EqRows.f
    rw [if_pos rfl]
    exact hK k hk
  unfold dioramaref00_EqImage.f
  rw [if_pos rfl, if_pos rfl, if_pos rfl, h1]
  rfl
theorem check_zero (a b c : Int) (l : List (List Int)) (h : picture_Check.f a b c l = some 0) : 1 ≤ a ∧ a ≤ 64 ∧ 1 ≤ b ∧ b ≤ 64 ∧ 1 ≤ c ∧ c ≤ 12 ∧ 0 < l.length ∧ l.length ≤ 4 ∧ (∀ r ∈ l, r.length = a.toNat * b.toNat) ∧ okPlanes c l = true := by
  unfold picture_Check.f at h
  have h := Option.some.inj h
  split at h
  · cases h
  · rename_i h1
    split at h
    · cases h
    · rename_i h2
      split at h
      · rename_i h3
        have h1 : (btw a 1 64 && btw b 1 64 && btw c 1 12 && btw (l.length : Int) 1 4) = true := by cases hb : (btw a 1 64 && btw b 1 64 && btw c 1 12 && btw (l.length : Int) 1 4) with | true => rfl | false => exact absurd hb h1
        simp only [btw, Bool.and_eq_true, decide_eq_true_eq] at h1
        obtain ⟨⟨⟨⟨a1, a2⟩, b1, b2⟩, c1, c2⟩, n1, n2⟩ := h1
        refine ⟨a1, a2, b1, b2, c1, c2, by omega, by omega, fun r hr => ?_, h3⟩
        have hall : ¬ ((r.length : Int) != wrap64 (a * b)) = true := fun he => h2 (List.any_eq_true.2 ⟨r, hr, he⟩)
        have he : (r.length : Int) = wrap64 (a * b) := by simpa using hall
        have hm : a * b = ((a.toNat * b.toNat : Nat) : Int) := by
          rw [Int.natCast_mul]
          congr 1 <;> omega
        have hmb : a.toNat * b.toNat ≤ 64 * 64 := Nat.mul_le_mul (by omega) (by omega)
        rw [hm, w64_nat _ (by omega)] at he
        exact Int.ofNat_inj.1 he
      · cases h
theorem turn_ok (a b c : Int) (l : List (List Int)) (q : Int) (fl : Bool) (h : picture_Check.f a b c l = some 0) (hq : 0 ≤ q ∧ q ≤ 3) : item_turned.f a b c l q fl = some (turnedF a b c l q.toNat fl) := by
  obtain ⟨a1, a2, b1, b2, _, _, n1, n2, hr, _⟩ := check_zero a b c l h
  unfold item_turned.f
  rw [if_pos ⟨⟨a1, by omega, b1, by omega, n1, by omega, hq.1, hq.2⟩, List.all_eq_true.2 fun r hrr => by simpa using hr r hrr⟩]
theorem turn_is (a b c : Int) (l : List (List Int)) (q : Int) (fl : Bool) (hl : l.length ≤ 8) (hr : ∀ r ∈ l, r.length ≤ 5000) :
    ∃ r, item_Turn.f a b c l q fl = some r ∧ (Ev fun k => dioramaref15_Turn.f k a b c l q fl = some r) ∧ (r.2.2.2.2 ≠ 0 → r.1 = 0 ∧ r.2.1 = 0 ∧ r.2.2.1 = 0 ∧ r.2.2.2.1 = []) ∧ (r.2.2.2.2 = 0 → picture_Check.f a b c l = some 0 ∧ 0 ≤ q ∧ q ≤ 3) := by
  have hck := check_is a b c l hl hr
  obtain ⟨e, he⟩ : ∃ e, picture_Check.f a b c l = some e := ⟨_, rfl⟩
  by_cases h0 : e = 0
  · subst h0
    cases hw : btw q 0 3 with
    | true =>
      have hq : 0 ≤ q ∧ q ≤ 3 := by simpa [btw] using hw
      have ht := turn_ok a b c l q fl he hq
      refine ⟨((turnedF a b c l q.toNat fl).1, (turnedF a b c l q.toNat fl).2.1, (turnedF a b c l q.toNat fl).2.2.1, (turnedF a b c l q.toNat fl).2.2.2, 0), ?_, ?_, fun h => absurd rfl h, fun _ => ⟨he, hq⟩⟩
      · unfold item_Turn.f
        rw [he, Option.bind_some, if_pos rfl, within48_is, hw, Option.bind_some, if_pos rfl, ht, Option.bind_some]
      · obtain ⟨K, hK⟩ := turned_is a b c l q fl _ hl ht
        refine ⟨K + 60000, fun k hk => ?_⟩
        show dioramaref15_Turn.f k a b c l q fl = _
        unfold dioramaref15_Turn.f
        rw [hck k (by omega), he, Option.bind_some, if_pos rfl, in15_is, hw, Option.bind_some, if_pos rfl, hK k (by omega), Option.bind_some]
    | false =>
      refine ⟨(0, 0, 0, [], 1), ?_, ⟨60000, fun k hk => ?_⟩, fun _ => ⟨rfl, rfl, rfl, rfl⟩, fun h => absurd h (by decide)⟩
      · unfold item_Turn.f
        rw [he, Option.bind_some, if_pos rfl, within48_is, hw, Option.bind_some, if_neg (by decide)]
      · show dioramaref15_Turn.f k a b c l q fl = _
        unfold dioramaref15_Turn.f
        rw [hck k hk, he, Option.bind_some, if_pos rfl, in15_is, hw, Option.bind_some, if_neg (by decide)]
  · refine ⟨(0, 0, 0, [], e), ?_, ⟨60000, fun k hk => ?_⟩, fun _ => ⟨rfl, rfl, rfl, rfl⟩, fun h => absurd h h0⟩
    · unfold item_Turn.f
      rw [he, Option.bind_some, if_neg h0]
    · show dioramaref15_Turn.f k a b c l q fl = _
      unfold dioramaref15_Turn.f
      rw [hck k hk, he, Option.bind_some, if_neg h0]
end Go.Proofs.YtphkionjjhhhlaaGreat.Q
end
section
namespace Go.Proofs.YtphkionjjhhhlaaGreat.Q
open Go.RowKit Go.Proofs.YtphkionjjhhhlaaGreatW.PrintWords Go.Proofs.YtphkionjjhhhlaaGreatW.PrintLast Go.Proofs.YtphkionjjhhhlaaGreatW.PrintMore
theorem rot1_get (w h : Nat) (l : List Int) (q : Nat) (hq : q < w * h) : (rot1 w h l).getD q 0 = l.getD ((h - 1 - q % h) * w + q / h) 0 := by
  simp [rot1, List.getD_eq_getElem?_getD, hq]
theorem map_range_getD (f : Nat → Int) (n q : Nat) (hq : q < n) : ((List.range n).map f).getD q 0 = f q := by
  simp [List.getD_eq_getElem?_getD, hq]
theorem div_mod_of (h x y : Nat) (hy : y < h) : (x * h + y) % h = y ∧ (x * h + y) / h = x := by
  rw [Nat.mul_comm]
  exact ⟨by rw [Nat.mul_add_mod, Nat.mod_eq_of_lt hy], by rw [Nat.mul_add_div (by omega), Nat.div_eq_of_lt hy, Nat.add_zero]⟩
theorem half_turn (w h : Nat) (hw : 0 < w) (hh : 0 < h) (l : List Int) : rot1 h w (rot1 w h l) = (List.range (w * h)).map fun q => l.getD (w * h - 1 - q) 0 := by
  apply List.ext_getElem?
  intro q
  by_cases hq : q < w * h
  · have hq' : q < h * w := by rw [Nat.mul_comm]; exact hq
    have hqd : q / w < h := Nat.div_lt_of_lt_mul hq
    have hqm : q % w < w := Nat.mod_lt _ hw
    have hdm := Nat.div_add_mod q w
    obtain ⟨e1, e2⟩ := div_mod_of h (w - 1 - q % w) (q / w) hqd
    have hp : (w - 1 - q % w) * h + q / w < w * h := by
      have : (w - 1 - q % w) * h + h ≤ w * h := by rw [← Nat.succ_mul]; exact Nat.mul_le_mul_right _ (by omega)
      omega
    have hL : (rot1 h w (rot1 w h l))[q]? = some ((rot1 w h l).getD ((w - 1 - q % w) * h + q / w) 0) := by simp [rot1, hq']
    rw [hL, rot1_get w h l _ hp, e1, e2]
    have e3 : (h - 1 - q / w) * w + (w - 1 - q % w) = w * h - 1 - q := by
      obtain ⟨d, hd⟩ : ∃ d, h = q / w + 1 + d := ⟨h - 1 - q / w, by omega⟩
      have : h - 1 - q / w = d := by omega
      rw [this]
      have hwh : w * h = w * (q / w) + w + w * d := by
        conv => lhs; rw [hd]
        rw [Nat.mul_add, Nat.mul_add, Nat.mul_one]
      rw [Nat.mul_comm d w]
      omega
    have e4 : w - 1 - (w - 1 - q % w) = q % w := by omega
    rw [e3]
    simp [hq]
  · rw [List.getElem?_eq_none (by rw [rot1_length, Nat.mul_comm]; omega), List.getElem?_eq_none (by simp; omega)]
theorem full_turn (w h : Nat) (hw : 0 < w) (hh : 0 < h) (l : List Int) (hl : l.length = w * h) : rot1 h w (rot1 w h (rot1 h w (rot1 w h l))) = l := by
  rw [half_turn w h hw hh l, half_turn w h hw hh]
  apply List.ext_getElem?
  intro q
  by_cases hq : q < w * h
  · have h2 : l[q]? = some l[q] := List.getElem?_eq_getElem (by omega)
    rw [List.getElem?_map, List.getElem?_range hq, Option.map_some, map_range_getD _ _ _ (by omega), h2, List.getD_eq_getElem?_getD, show w * h - 1 - (w * h - 1 - q) = q by omega, h2]
    rfl
  · rw [List.getElem?_eq_none (by simp; omega), List.getElem?_eq_none (by omega)]
theorem flip_twice (w h : Nat) (hw : 0 < w) (l : List Int) (hl : l.length = w * h) : flipP w h (flipP w h l) = l := by
  have hl1 : (flipP w h l).length = w * h := by rw [flipP, flipT_length]; exact hl
  rw [flipP_is w h _ hw hl1, rowsR_is w _ hw, flipP_is w h l hw hl, rowsR_is w l hw]
  apply List.ext_getElem?
  intro q
  by_cases hq : q < h * w
  · have hqm : q % w < w := Nat.mod_lt _ hw
    have hdm := Nat.div_add_mod q w
    have hql : q < l.length := by rw [hl, Nat.mul_comm]; exact hq
    have h2 : l[q]? = some l[q] := List.getElem?_eq_getElem hql
    obtain ⟨e1, e2⟩ := div_mod_of w (q / w) (w - 1 - q % w) (by omega)
    have hp : q / w * w + (w - 1 - q % w) < h * w := by
      have : q / w < h := Nat.div_lt_of_lt_mul (by rw [Nat.mul_comm]; exact hq)
      have : (q / w + 1) * w ≤ h * w := Nat.mul_le_mul_right _ this
      rw [Nat.add_mul, Nat.one_mul] at this
      omega
    simp only [Nat.zero_add]
    rw [List.getElem?_map, List.getElem?_range hq, Option.map_some, map_range_getD _ _ _ hp, e1, e2, h2, List.getD_eq_getElem?_getD, show q / w * w + (w - 1 - (w - 1 - q % w)) = q by rw [Nat.mul_comm]; omega, h2]
    rfl
  · rw [List.getElem?_eq_none (by simp; omega), List.getElem?_eq_none (by rw [hl, Nat.mul_comm]; omega)]
theorem turnN_add : ∀ (i j : Nat) (s : Nat × Nat × List (List Int)), turnN j (turnN i s) = turnN (i + j) s
  | 0, j, s => by rw [Nat.zero_add]; rfl
  | i + 1, j, s => by rw [show i + 1 + j = (i + j) + 1 by omega]; exact turnN_add i j _
theorem turnN_four (s : Nat × Nat × List (List Int)) (hs : okPic s) : turnN 4 s = s := by
  obtain ⟨w, h, ps⟩ := s
  obtain ⟨h1, _, h3, _, _, h6⟩ := hs
  show (w, h, (((ps.map (rot1 w h)).map (rot1 h w)).map (rot1 w h)).map (rot1 h w)) = (w, h, ps)
  congr 2
  simp only [List.map_map]
  conv => rhs; rw [← List.map_id ps]
  exact List.map_congr_left fun r hr => full_turn w h h1 h3 r (h6 r hr)
end Go.Proofs.YtphkionjjhhhlaaGreat.Q
end
section
namespace Go.Proofs.YtphkionjjhhhlaaGreat.Q
open Go.RowKit Go.Proofs.YtphkionjjhhhlaaGreatW.PrintWords Go.Proofs.YtphkionjjhhhlaaGreatW.PrintLast Go.Proofs.YtphkionjjhhhlaaGreatW.PrintMore
theorem check_make (w h : Nat) (c : Int) (l : List (List Int)) (hw : 1 ≤ w ∧ w ≤ 64) (hh : 1 ≤ h ∧ h ≤ 64) (hc : 1 ≤ c ∧ c ≤ 12) (hn : 0 < l.length ∧ l.length ≤ 4) (hr : ∀ r ∈ l, r.length = w * h) (hv : ∀ r ∈ l, ∀ v ∈ r, btw v 0 (2 ^ c.toNat - 1) = true) : picture_Check.f (w : Int) (h : Int) c l = some 0 := by
  have hmb : w * h ≤ 64 * 64 := Nat.mul_le_mul hw.2 hh.2
  have e1 : btw (w : Int) 1 64 = true := by simp [btw]; omega
  have e2 : btw (h : Int) 1 64 = true := by simp [btw]; omega
  have e3 : btw c 1 12 = true := by simp [btw]; omega
  have e4 : btw (l.length : Int) 1 4 = true := by simp [btw]; omega
  have e5 : (l.any fun p => (p.length : Int) != wrap64 ((w : Int) * (h : Int))) = false := by
    rw [List.any_eq_false]
    intro r hrr
    rw [← Int.natCast_mul, w64_nat _ (by omega), hr r hrr]
    simp
  have e6 : okPlanes c l = true := by
    unfold okPlanes
    rw [List.all_eq_true]
    intro r hrr
    have : (r.any fun v => !(btw v 0 (2 ^ c.toNat - 1))) = false := by
      rw [List.any_eq_false]
      intro v hvv
      rw [hv r hrr v hvv]
      decide
    rw [this]
    rfl
  unfold picture_Check.f
  rw [e1, e2, e3, e4, e5, e6]
  rfl
theorem okPlanes_all (c : Int) (l : List (List Int)) (h : okPlanes c l = true) : ∀ r ∈ l, ∀ v ∈ r, btw v 0 (2 ^ c.toNat - 1) = true := by
  intro r hr v hv
  have h1 := List.all_eq_true.1 h r hr
  have h2 : (r.any fun v => !(btw v 0 (2 ^ c.toNat - 1))) = false := by simpa using h1
  have h3 := List.any_eq_false.1 h2 v hv
  simpa using h3
def inB (c : Int) (r : List Int) : Prop := ∀ v ∈ r, btw v 0 (2 ^ c.toNat - 1) = true
theorem inB.getD {c : Int} {r : List Int} (hr : inB c r) (i : Nat) : btw (r.getD i 0) 0 (2 ^ c.toNat - 1) = true := by
  rw [List.getD_eq_getElem?_getD]
  cases hx : r[i]? with
  | some x => exact hr x (List.mem_of_getElem? hx)
  | none =>
    have : (0 : Int) < 2 ^ c.toNat := Int.pow_pos (by decide)
    simp [btw]
    omega
theorem inB.map {c : Int} {r : List Int} (hr : inB c r) (n : Nat) (f : Nat → Nat) : inB c ((List.range n).map fun q => r.getD (f q) 0) := by
  intro v hv
  obtain ⟨q, _, rfl⟩ := List.mem_map.1 hv
  exact hr.getD _
theorem inB.rot {c : Int} {r : List Int} (hr : inB c r) (w h : Nat) : inB c (rot1 w h r) := hr.map _ _
theorem inB.flip {c : Int} {r : List Int} (hr : inB c r) (w h : Nat) (hw : 0 < w) (hl : r.length = w * h) : inB c (flipP w h r) := by
  rw [flipP_is w h r hw hl, rowsR_is w r hw]
  exact hr.map _ _
def okAll (c : Int) (s : Nat × Nat × List (List Int)) : Prop := (1 ≤ s.1 ∧ s.1 ≤ 64) ∧ (1 ≤ s.2.1 ∧ s.2.1 ≤ 64) ∧ (1 ≤ c ∧ c ≤ 12) ∧ (0 < s.2.2.length ∧ s.2.2.length ≤ 4) ∧ (∀ r ∈ s.2.2, r.length = s.1 * s.2.1) ∧ ∀ r ∈ s.2.2, inB c r
theorem okAll.pic {c : Int} {s : Nat × Nat × List (List Int)} (h : okAll c s) : okPic s := ⟨h.1.1, by have := h.1.2; omega, h.2.1.1, by have := h.2.1.2; omega, by have := h.2.2.2.1.2; omega, h.2.2.2.2.1⟩
theorem okAll.check {c : Int} {s : Nat × Nat × List (List Int)} (h : okAll c s) : picture_Check.f (s.1 : Int) (s.2.1 : Int) c s.2.2 = some 0 := check_make _ _ _ _ h.1 h.2.1 h.2.2.1 h.2.2.2.1 h.2.2.2.2.1 h.2.2.2.2.2
theorem okAll.turn {c : Int} {s : Nat × Nat × List (List Int)} (h : okAll c s) : okAll c (s.2.1, s.1, s.2.2.map (rot1 s.1 s.2.1)) := by
  obtain ⟨h1, h2, h3, h4, h5, h6⟩ := h
  refine ⟨h2, h1, h3, by simpa using h4, fun r hr => ?_, fun r hr => ?_⟩
  · obtain ⟨r', _, rfl⟩ := List.mem_map.1 hr
    rw [rot1_length, Nat.mul_comm]
  · obtain ⟨r', hr', rfl⟩ := List.mem_map.1 hr
    exact (h6 r' hr').rot _ _
theorem okAll.turnN {c : Int} : ∀ (k : Nat) {s : Nat × Nat × List (List Int)}, okAll c s → okAll c (turnN k s)
  | 0, _, h => h
  | k + 1, _, h => okAll.turnN k h.turn
theorem okAll.flip {c : Int} {s : Nat × Nat × List (List Int)} (h : okAll c s) : okAll c (s.1, s.2.1, s.2.2.map (flipP s.1 s.2.1)) := by
  obtain ⟨h1, h2, h3, h4, h5, h6⟩ := h
  refine ⟨h1, h2, h3, by simpa using h4, fun r hr => ?_, fun r hr => ?_⟩
  · obtain ⟨r', hr', rfl⟩ := List.mem_map.1 hr
    rw [flipP, flipT_length]
    exact h5 r' hr'
  · obtain ⟨r', hr', rfl⟩ := List.mem_map.1 hr
    exact (h6 r' hr').flip _ _ h1.1 (h5 r' hr')
theorem okAll.of_check {a b c : Int} {l : List (List Int)} (h : picture_Check.f a b c l = some 0) : okAll c (a.toNat, b.toNat, l) ∧ a = (a.toNat : Int) ∧ b = (b.toNat : Int) := by
  obtain ⟨a1, a2, b1, b2, c1, c2, n1, n2, hr, hv⟩ := check_zero a b c l h
  refine ⟨⟨⟨?_, ?_⟩, ⟨?_, ?_⟩, ⟨c1, c2⟩, ⟨n1, n2⟩, hr, okPlanes_all c l hv⟩, by omega, by omega⟩
  · show 1 ≤ a.toNat; omega
  · show a.toNat ≤ 64; omega
  · show 1 ≤ b.toNat; omega
  · show b.toNat ≤ 64; omega
theorem turn_all {c : Int} {s : Nat × Nat × List (List Int)} (h : okAll c s) (q : Nat) (hq : q ≤ 3) : item_Turn.f (s.1 : Int) (s.2.1 : Int) c s.2.2 (q : Int) false = some (((turnN q s).1 : Int), ((turnN q s).2.1 : Int), c, (turnN q s).2.2, 0) := by
  have ht := turn_ok (s.1 : Int) (s.2.1 : Int) c s.2.2 (q : Int) false h.check ⟨by omega, by omega⟩
  have hb : btw (q : Int) 0 3 = true := by simp [btw]; omega
  unfold item_Turn.f
  rw [h.check, Option.bind_some, if_pos rfl, within48_is, hb, Option.bind_some, if_pos rfl, ht, Option.bind_some]
  simp [turnedF]
theorem flip_all {c : Int} {s : Nat × Nat × List (List Int)} (h : okAll c s) : item_Turn.f (s.1 : Int) (s.2.1 : Int) c s.2.2 0 true = some ((s.1 : Int), (s.2.1 : Int), c, s.2.2.map (flipP s.1 s.2.1), 0) := by
  have ht := turn_ok (s.1 : Int) (s.2.1 : Int) c s.2.2 0 true h.check ⟨by omega, by omega⟩
  have hb : btw 0 0 3 = true := by decide
  unfold item_Turn.f
  rw [h.check, Option.bind_some, if_pos rfl, within48_is, hb, Option.bind_some, if_pos rfl, ht, Option.bind_some]
  simp [turnedF, turnN]
end Go.Proofs.YtphkionjjhhhlaaGreat.Q
end
section
namespace Go.Proofs.YtphkionjjhhhlaaGreat.Q
open Go.RowKit Go.Proofs.YtphkionjjhhhlaaGreatW.PrintWords Go.Proofs.YtphkionjjhhhlaaGreatW.PrintLast Go.Proofs.YtphkionjjhhhlaaGreatW.PrintMore
def dioramalaw15_plain.l0 : Nat → Int → Int → Int → Int → List (List Int) → Option (Bool)
  | 0, _, _, _, _, _ => none
  | k + 1, x3, x102000, x102001, x102002, x102003 => if x3 < (x102003.length : Int) then (if 0 ≤ x3 then (if ((rd_L1 x102003 x3).length : Int) > 5000 then (some false) else (dioramalaw15_plain.l0 k (wrap64 (x3 + 1)) x102000 x102001 x102002 x102003)) else (none)) else (some (decide ((x102003.length : Int) ≤ 8)))
def dioramalaw15_plain.f (k : Nat) (a0_0 : Int) (a0_1 : Int) (a0_2 : Int) (l0_3 : List (List Int)) : Option (Bool) := dioramalaw15_plain.l0 k 0 a0_0 a0_1 a0_2 l0_3
set_option maxHeartbeats 8000000 in
set_option maxRecDepth 100000 in
theorem dioramalaw15_plain.calls (k : Nat) (a0_0 : Int) (a0_1 : Int) (a0_2 : Int) (A0_3 : Option Addr) (c0_3 : Nat) (l0_3 : List (List Int)) (r : Bool) (w : World) (hr0_3 : Kd.C (Kd.slice 3 (Kd.int .i64)) w A0_3 l0_3.length l0_3) (hc0_3 : l0_3.length ≤ c0_3) (h : dioramalaw15_plain.f k a0_0 a0_1 a0_2 l0_3 = some r) :
    Calls Tryz.prog 12 #[.agg #[.int .i64 a0_0, .int .i64 a0_1, .int .i64 a0_2, .slice A0_3 l0_3.length c0_3]] w fun e w' => e = .returned (.bool r) ∧ Below w.heap.size w w' := by
  have hu24 := Tryz.underlying24
  have HR0_3 := Aside0.mk hr0_3
  have HC0_3 := Aside0.mk hc0_3
  clear hr0_3 hc0_3
  have HB := Aside0.mk (Below.refl w.heap.size w)
  have H : (dioramalaw15_plain.l0 k 0 a0_0 a0_1 a0_2 l0_3) = some r := h
  clear h
  have H' := Aside0.mk H
  clear H
  go_enter Tryz.func12, Tryz.ntmps12
  go_wp2_with (first | ((with_reducible refine gate_dst (N := 1) rfl ?_); refine box_event ?hg (N := 1) ?hd (cs := #[.int .i64 a0_0, .int .i64 a0_1, .int .i64 a0_2, .slice A0_3 l0_3.length c0_3]) (t := 24) ?hr ?_; (case hd => rfl); (case hg => rfl); (case hr => first | (go_simp; done) | (go_simp; rfl)); intro gb101 hg w2 hbox hb; have n0_ := Aside0.mk (below_step (by repeat (first | (with_reducible first | exact HB.out | apply below_alloc | apply pw_below_drewN | apply below_drew1) | exact HB.out)) hb); have n1_ := Aside0.mk (hbox); have n2_ := Aside0.mk ((by rw [hg]; exact (below_size (by repeat (first | (with_reducible first | exact HB.out | apply below_alloc | apply pw_below_drewN | apply below_drew1) | exact HB.out))) : w.heap.size ≤ gb101)); have n3_ := Aside0.mk ((by rw [hg]; exact (below_size (by repeat (first | (with_reducible first | exact HB.out | apply below_alloc | apply pw_below_drewN | apply below_drew1) | exact HB.out))) : w.heap.size ≤ gb101)); clear HB; have HB := n0_; have BK101 := n1_; have GW101 := n2_; have GE101 := n3_; clear n0_ n1_ n2_ n3_; clear hb hbox hg))
  go_loopg [3] k (fun kq v3 w' => ∃ (x3_1 : Int), v3 = .int .i64 x3_1 ∧ Aside0 (dioramalaw15_plain.l0 kq x3_1 a0_0 a0_1 a0_2 l0_3 = some r) ∧ Aside0 (kq ≤ k) ∧ Aside0 (w'.heap[gb101]? = some (.cells #[.int .i64 a0_0, .int .i64 a0_1, .int .i64 a0_2, (.slice A0_3 l0_3.length c0_3)] 24 (0, 0))) ∧ Aside0 (Below w.heap.size w w'))
  case atStart => exact ⟨(0), (by first | rfl | (simp; done) | (simp [*]; done)), H', ⟨Nat.le_refl _⟩, ⟨by (with_reducible repeat (first | refine blk_drewN ?_ _ | refine blk_drew ?_ | refine blk_alloc ?_ _)); exact BK101.out⟩, ⟨by repeat (first | (with_reducible first | exact HB.out | apply below_alloc | apply pw_below_drewN | apply below_drew1 | refine below_set ?_ GE101.out) | exact HB.out)⟩⟩
  case round =>
    clear H'
    try clear c1
    try clear p2
    obtain ⟨x3_1, rfl, HA, HK1, BK101, HB⟩ := hrel
    cases gk with
    | zero => exact absurd HA.out (by simp [dioramalaw15_plain.l0])
    | succ k1 =>
      have H := HA.out
      clear HA
      simp only [dioramalaw15_plain.l0] at H
      by_cases c3 : x3_1 < (l0_3.length : Int)
      · rw [if_pos c3] at H
        have c3b0 : decide (x3_1 < (l0_3.length : Int)) = true := decide_eq_true c3
        clear c3
        by_cases c4 : 0 ≤ x3_1
        · rw [if_pos c4] at H
          have c4b0 : decide (0 ≤ x3_1) = true := decide_eq_true c4
          clear c4
          by_cases c5 : ((rd_L1 l0_3 x3_1).length : Int) > 5000
          · rw [if_pos c5] at H
            have c5b0 : decide (5000 < ((rd_L1 l0_3 x3_1).length : Int)) = true := decide_eq_true c5
            have c5b1 : decide (5000 < (rd_L1 l0_3 x3_1).length) = true := decide_eq_true (by omega)
            clear c5
            obtain rfl := Option.some.inj H
            have hcz6_0 : wr.cell? ⟨gb101, 0, none⟩ = some (.int .i64 a0_0) := (blk_cell BK101.out 0).trans rfl
            have hcz6_1 : wr.cell? ⟨gb101, 1, none⟩ = some (.int .i64 a0_1) := (blk_cell BK101.out 1).trans rfl
            have hcz6_2 : wr.cell? ⟨gb101, 2, none⟩ = some (.int .i64 a0_2) := (blk_cell BK101.out 2).trans rfl
            have hcz6_3 : wr.cell? ⟨gb101, 3, none⟩ = some (.slice A0_3 l0_3.length c0_3) := (blk_cell BK101.out 3).trans rfl
            have hfz6_0 := blk_frozen BK101.out 0
            have hfz6_1 := blk_frozen BK101.out 1
            have hfz6_2 := blk_frozen BK101.out 2
            have hfz6_3 := blk_frozen BK101.out 3
            have p102 : 0 ≤ (x3_1 : Int) := of_decide_eq_true (by first | (with_reducible assumption) | assumption)
            have q102 : x3_1 < (l0_3.length : Int) := of_decide_eq_true (by first | (with_reducible assumption) | assumption)
            obtain ⟨ad102, A102_0, c102_0, e102, hx102_0, hl102_0, hi102_0⟩ := at_L1 HR0_3.out x3_1 p102 q102
            cases e102
            replace hx102_0 := (HB.out.cell (World.block_lt_of_cell? w _ hx102_0)).trans hx102_0
            have HR102_0 := Aside0.mk hi102_0
            have HC102_0 := Aside0.mk hl102_0
            clear hi102_0 hl102_0
            replace p102 := eq_true p102
            replace q102 := eq_true q102
            go_wp2
            go_ret
            exact ⟨by first | rfl | (simp [errW_none, errW_some] <;> rfl) | (simp [*, errW_none, errW_some] <;> rfl), by repeat (first | (with_reducible first | exact HB.out | apply below_alloc | apply pw_below_drewN | apply below_drew1 | refine below_set ?_ GE101.out) | exact HB.out)⟩
          · rw [if_neg c5] at H
            have c5b0 : decide (5000 < ((rd_L1 l0_3 x3_1).length : Int)) = false := decide_eq_false c5
            have c5b1 : decide (5000 < (rd_L1 l0_3 x3_1).length) = false := decide_eq_false (by omega)
            clear c5
            have H' := Aside0.mk H
            clear H
            have hcz7_0 : wr.cell? ⟨gb101, 0, none⟩ = some (.int .i64 a0_0) := (blk_cell BK101.out 0).trans rfl
            have hcz7_1 : wr.cell? ⟨gb101, 1, none⟩ = some (.int .i64 a0_1) := (blk_cell BK101.out 1).trans rfl
            have hcz7_2 : wr.cell? ⟨gb101, 2, none⟩ = some (.int .i64 a0_2) := (blk_cell BK101.out 2).trans rfl
            have hcz7_3 : wr.cell? ⟨gb101, 3, none⟩ = some (.slice A0_3 l0_3.length c0_3) := (blk_cell BK101.out 3).trans rfl
            have hfz7_0 := blk_frozen BK101.out 0
            have hfz7_1 := blk_frozen BK101.out 1
            have hfz7_2 := blk_frozen BK101.out 2
            have hfz7_3 := blk_frozen BK101.out 3
            have p102 : 0 ≤ (x3_1 : Int) := of_decide_eq_true (by first | (with_reducible assumption) | assumption)
            have q102 : x3_1 < (l0_3.length : Int) := of_decide_eq_true (by first | (with_reducible assumption) | assumption)
            obtain ⟨ad102, A102_0, c102_0, e102, hx102_0, hl102_0, hi102_0⟩ := at_L1 HR0_3.out x3_1 p102 q102
            cases e102
            replace hx102_0 := (HB.out.cell (World.block_lt_of_cell? w _ hx102_0)).trans hx102_0
            have HR102_0 := Aside0.mk hi102_0
            have HC102_0 := Aside0.mk hl102_0
            clear hi102_0 hl102_0
            replace p102 := eq_true p102
            replace q102 := eq_true q102
            go_wp2
            go_roundg k1
            case measure => have := HK1.out; omega
            case rel => exact ⟨(wrap64 (x3_1 + 1)), (by first | rfl | (simp; done) | (simp [*]; done)), H', ⟨by have := HK1.out; omega⟩, ⟨by (with_reducible repeat (first | refine blk_drewN ?_ _ | refine blk_drew ?_ | refine blk_alloc ?_ _)); exact BK101.out⟩, ⟨by repeat (first | (with_reducible first | exact HB.out | apply below_alloc | apply pw_below_drewN | apply below_drew1 | refine below_set ?_ GE101.out) | exact HB.out)⟩⟩
        · rw [if_neg c4] at H
          exact absurd H (by simp)
      · rw [if_neg c3] at H
        have c3b0 : decide (x3_1 < (l0_3.length : Int)) = false := decide_eq_false c3
        clear c3
        obtain rfl := Option.some.inj H
        have hcz8_0 : wr.cell? ⟨gb101, 0, none⟩ = some (.int .i64 a0_0) := (blk_cell BK101.out 0).trans rfl
        have hcz8_1 : wr.cell? ⟨gb101, 1, none⟩ = some (.int .i64 a0_1) := (blk_cell BK101.out 1).trans rfl
        have hcz8_2 : wr.cell? ⟨gb101, 2, none⟩ = some (.int .i64 a0_2) := (blk_cell BK101.out 2).trans rfl
        have hcz8_3 : wr.cell? ⟨gb101, 3, none⟩ = some (.slice A0_3 l0_3.length c0_3) := (blk_cell BK101.out 3).trans rfl
        have hfz8_0 := blk_frozen BK101.out 0
        have hfz8_1 := blk_frozen BK101.out 1
        have hfz8_2 := blk_frozen BK101.out 2
        have hfz8_3 := blk_frozen BK101.out 3
        go_wp2
        go_ret
        exact ⟨by first | rfl | (simp [errW_none, errW_some] <;> rfl) | (simp [*, errW_none, errW_some] <;> rfl), by repeat (first | (with_reducible first | exact HB.out | apply below_alloc | apply pw_below_drewN | apply below_drew1 | refine below_set ?_ GE101.out) | exact HB.out)⟩
end Go.Proofs.YtphkionjjhhhlaaGreat.Q
end
section
namespace Go.Proofs.YtphkionjjhhhlaaGreat.Q
open Go.RowKit Go.Proofs.YtphkionjjhhhlaaGreatW.PrintWords Go.Proofs.YtphkionjjhhhlaaGreatW.PrintLast Go.Proofs.YtphkionjjhhhlaaGreatW.PrintMore
def item_side.f (a0 : Int) : Option (Bool) := (item_within.f a0 1 64).bind fun t203 => (some t203)
set_option maxHeartbeats 8000000 in
set_option maxRecDepth 100000 in
theorem item_side.calls (a0 : Int) (r : Bool) (w : World) (h : item_side.f a0 = some r) :
    Calls Tryz.prog 70 #[.int .i64 a0] w fun e w' => e = .returned (.bool r) ∧ Drawn0 w w' := by
  have H : ((item_within.f a0 1 64).bind fun t203 => (some t203)) = some r := h
  clear h
  replace H := Option.bind_eq_some_iff.mp H
  obtain ⟨t203, A20, H⟩ := H
  replace H : (some t203) = some r := H
  have A2 := Aside0.mk A20
  clear A20
  obtain rfl := Option.some.inj H
  go_enter Tryz.func70, Tryz.ntmps70
  go_wp2_with (first | ((with_reducible refine gate_callee (f := 48) rfl ?_); refine goesL_ (some 4) rfl rfl Tryz.func48 (by kernel_rfl) rfl #[.int .i64 a0, .int .i64 1, .int .i64 64] rfl (by (try simp only [List.map_toArray, List.map_cons, List.map_nil]); first | done | rfl | (simp only [List.length_drop, List.length_take]; rfl)) ?_; (with_reducible refine (item_within.calls a0 1 64 t203 _ A2.out).mono ?_); rintro e w' ⟨rfl, ⟨nd, rfl⟩⟩; refine ⟨_, rfl, ?_⟩))
  go_ret
  exact ⟨by first | rfl | (simp; done) | (simp [*]; done), by repeat (first | exact Drawn0.refl _ | apply Drawn0.step)⟩
end Go.Proofs.YtphkionjjhhhlaaGreat.Q
end
section
namespace Go.Proofs.YtphkionjjhhhlaaGreat.Q
open Go.RowKit Go.Proofs.YtphkionjjhhhlaaGreatW.PrintWords Go.Proofs.YtphkionjjhhhlaaGreatW.PrintLast Go.Proofs.YtphkionjjhhhlaaGreatW.PrintMore
theorem iwithin_f (a b c : Int) : item_within.f a b c = some (btw a b c) := by
  unfold item_within.f btw
  split
  · rename_i h; simp [h]
  · rename_i h; simp [show ¬ b ≤ a from h]
theorem iwithin_is (a b c : Int) (v : Bool) (h : btw a b c = v) (w : World) : Calls Tryz.prog 48 #[.int .i64 a, .int .i64 b, .int .i64 c] w fun e w' => e = .returned (.bool v) ∧ Drawn0 w w' := h ▸ item_within.calls a b c _ w (iwithin_f a b c)
theorem iside_is (a : Int) (v : Bool) (h : btw a 1 64 = v) (w : World) : Calls Tryz.prog 70 #[.int .i64 a] w fun e w' => e = .returned (.bool v) ∧ Drawn0 w w' := h ▸ item_side.calls a _ w (by unfold item_side.f; rw [iwithin_f]; rfl)
theorem enters_109 : ∀ (args : Array Value) (W : World), (callFunc 109 args).run Tryz.prog W = .ok (.enter 109 args) W := enters_of Tryz.func109 (by kernel_rfl) rfl
theorem enters_110 : ∀ (args : Array Value) (W : World), (callFunc 110 args).run Tryz.prog W = .ok (.enter 110 args) W := enters_of Tryz.func110 (by kernel_rfl) rfl
theorem pred_109 (w : World) : PredIn Tryz.prog 109 #[] (fun _ (x : Int) v => v = .int .i64 x) (fun v => !(btw v 0 4095)) w := ⟨enters_109, fun W x v hb he => by
  subst he
  have HC := Aside0.mk (iwithin_is x 0 4095 _ rfl)
  simp only [Array.append_empty]
  go_enter Tryz.func109, Tryz.ntmps109
  go_wp2_with (refine (HC.out _).mono ?_; rintro e w' ⟨rfl, hd⟩; have HD := Aside0.mk hd; clear hd)
  go_ret
  exact ⟨rfl, HD.out.below⟩⟩
theorem pred_110 (w : World) : PredIn Tryz.prog 110 #[] (fun _ (x : Int) v => v = .int .i64 x) (fun v => !(btw v (-64) 64)) w := ⟨enters_110, fun W x v hb he => by
  subst he
  have HC := Aside0.mk (iwithin_is x (-64) 64 _ rfl)
  simp only [Array.append_empty]
  go_enter Tryz.func110, Tryz.ntmps110
  go_wp2_with (refine (HC.out _).mono ?_; rintro e w' ⟨rfl, hd⟩; have HD := Aside0.mk hd; clear hd)
  go_ret
  exact ⟨rfl, HD.out.below⟩⟩
def item_ranges.f (a0_0 : Int) (a0_1 : Int) (l0_2 : List Int) (l0_3 : List Int) (l0_4 : List Int) (a0_5 : Int) (a0_6 : Int) (a0_7 : Int) (a0_8 : Int) (l0_9 : List Int) (a0_10 : Int) (a0_11 : Bool) : Option Bool :=
  some (if (btw a0_0 1 1000 && btw a0_1 0 3 && btw a0_10 0 3) = false then false
    else if a0_1 = 1 then (l0_3.length : Int) == 1
    else if a0_1 = 2 then btw a0_7 1 64 && btw a0_8 1 64 && btw (l0_9.length : Int) 1 4 && !(l0_9.any fun v => !(btw v 0 4095)) && decide ((l0_3.length : Int) ≤ 8) && ((l0_4.length : Int) == wrap64 (2 * (l0_3.length : Int))) && !(l0_4.any fun v => !(btw v (-64) 64))
    else if a0_1 = 3 then btw a0_7 1 64 && btw a0_8 1 64 && btw a0_5 1 8 && btw a0_6 1 8 && ((l0_3.length : Int) == wrap64 (a0_5 * a0_6))
    else true)
set_option maxHeartbeats 16000000 in
set_option maxRecDepth 100000 in
theorem item_ranges.calls (a0_0 : Int) (a0_1 : Int) (A0_2 : Option Addr) (c0_2 : Nat) (l0_2 : List Int) (A0_3 : Option Addr) (c0_3 : Nat) (l0_3 : List Int) (A0_4 : Option Addr) (c0_4 : Nat) (l0_4 : List Int) (a0_5 : Int) (a0_6 : Int) (a0_7 : Int) (a0_8 : Int) (A0_9 : Option Addr) (c0_9 : Nat) (l0_9 : List Int) (a0_10 : Int) (a0_11 : Bool) (r : Bool) (w : World) (hr0_2 : Kd.C (Kd.int .u8) w A0_2 l0_2.length l0_2) (hc0_2 : l0_2.length ≤ c0_2) (hr0_3 : Kd.C (Kd.int .i64) w A0_3 l0_3.length l0_3) (hc0_3 : l0_3.length ≤ c0_3) (hr0_4 : Kd.C (Kd.int .i64) w A0_4 l0_4.length l0_4) (hc0_4 : l0_4.length ≤ c0_4) (hr0_9 : Kd.C (Kd.int .i64) w A0_9 l0_9.length l0_9) (hc0_9 : l0_9.length ≤ c0_9) (h : item_ranges.f a0_0 a0_1 l0_2 l0_3 l0_4 a0_5 a0_6 a0_7 a0_8 l0_9 a0_10 a0_11 = some r) :
    Calls Tryz.prog 53 #[.agg #[.int .i64 a0_0, .int .i64 a0_1, .slice A0_2 l0_2.length c0_2, .slice A0_3 l0_3.length c0_3, .slice A0_4 l0_4.length c0_4, .int .i64 a0_5, .int .i64 a0_6, .int .i64 a0_7, .int .i64 a0_8, .slice A0_9 l0_9.length c0_9, .int .i64 a0_10, .bool a0_11]] w fun e w' => e = .returned (.bool r) ∧ Below w.heap.size w w' := by
  have hu68 := Tryz.underlying68
  have HR4 := Aside0.mk hr0_4
  have HR9 := Aside0.mk hr0_9
  clear hr0_2 hc0_2 hr0_3 hc0_3 hr0_4 hc0_4 hr0_9 hc0_9
  injection h with h
  cases b1 : btw a0_0 1 1000 with
  | false =>
    have HC1 := Aside0.mk (iwithin_is _ _ _ _ b1)
    simp only [b1, Bool.and_true, Bool.and_false, Bool.true_and, Bool.false_and, Bool.not_true, Bool.not_false, if_true, Bool.true_eq_false, if_false, Int.reduceEq, if_pos, reduceIte] at h
    subst h
    clear b1
    go_enter Tryz.func53, Tryz.ntmps53
    go_wp2_with (first | ((with_reducible refine gate_dst (N := 1) rfl ?_); refine box_event ?hg (N := 1) ?hd (cs := #[.int .i64 a0_0, .int .i64 a0_1, .slice A0_2 l0_2.length c0_2, .slice A0_3 l0_3.length c0_3, .slice A0_4 l0_4.length c0_4, .int .i64 a0_5, .int .i64 a0_6, .int .i64 a0_7, .int .i64 a0_8, .slice A0_9 l0_9.length c0_9, .int .i64 a0_10, .bool a0_11]) (t := 68) ?hr ?_; (case hd => rfl); (case hg => rfl); (case hr => first | (go_simp; done) | (go_simp; rfl)); intro gb hg w2 hbox hb; have HB2 := Aside0.mk hb; have BK := Aside0.mk hbox; have k0 := (blk_cell hbox 0).trans rfl; have k1 := (blk_cell hbox 1).trans rfl; have k2 := (blk_cell hbox 2).trans rfl; have k3 := (blk_cell hbox 3).trans rfl; have k4 := (blk_cell hbox 4).trans rfl; have k5 := (blk_cell hbox 5).trans rfl; have k6 := (blk_cell hbox 6).trans rfl; have k7 := (blk_cell hbox 7).trans rfl; have k8 := (blk_cell hbox 8).trans rfl; have k9 := (blk_cell hbox 9).trans rfl; have k10 := (blk_cell hbox 10).trans rfl; have k11 := (blk_cell hbox 11).trans rfl; clear hb hbox hg) | (go_at_call 48; (with_reducible refine (HC1.out _).mono ?_); rintro e w' ⟨rfl, hd⟩; obtain ⟨n1, rfl⟩ := hd.out; clear hd))
    go_ret
    exact ⟨rfl, by repeat (first | exact HB2.out | apply pw_below_drewN)⟩
  | true =>
    cases b2 : btw a0_1 0 3 with
    | false =>
      have HC1 := Aside0.mk (iwithin_is _ _ _ _ b1)
      have HC2 := Aside0.mk (iwithin_is _ _ _ _ b2)
      simp only [b1, b2, Bool.and_true, Bool.and_false, Bool.true_and, Bool.false_and, Bool.not_true, Bool.not_false, if_true, Bool.true_eq_false, if_false, Int.reduceEq, if_pos, reduceIte] at h
      subst h
      clear b1 b2
      go_enter Tryz.func53, Tryz.ntmps53
      go_wp2_with (first | ((with_reducible refine gate_dst (N := 1) rfl ?_); refine box_event ?hg (N := 1) ?hd (cs := #[.int .i64 a0_0, .int .i64 a0_1, .slice A0_2 l0_2.length c0_2, .slice A0_3 l0_3.length c0_3, .slice A0_4 l0_4.length c0_4, .int .i64 a0_5, .int .i64 a0_6, .int .i64 a0_7, .int .i64 a0_8, .slice A0_9 l0_9.length c0_9, .int .i64 a0_10, .bool a0_11]) (t := 68) ?hr ?_; (case hd => rfl); (case hg => rfl); (case hr => first | (go_simp; done) | (go_simp; rfl)); intro gb hg w2 hbox hb; have HB2 := Aside0.mk hb; have BK := Aside0.mk hbox; have k0 := (blk_cell hbox 0).trans rfl; have k1 := (blk_cell hbox 1).trans rfl; have k2 := (blk_cell hbox 2).trans rfl; have k3 := (blk_cell hbox 3).trans rfl; have k4 := (blk_cell hbox 4).trans rfl; have k5 := (blk_cell hbox 5).trans rfl; have k6 := (blk_cell hbox 6).trans rfl; have k7 := (blk_cell hbox 7).trans rfl; have k8 := (blk_cell hbox 8).trans rfl; have k9 := (blk_cell hbox 9).trans rfl; have k10 := (blk_cell hbox 10).trans rfl; have k11 := (blk_cell hbox 11).trans rfl; clear hb hbox hg) | (go_at_call 48; (with_reducible refine (HC1.out _).mono ?_); rintro e w' ⟨rfl, hd⟩; obtain ⟨n1, rfl⟩ := hd.out; clear hd) | (go_at_call 48; (with_reducible refine (HC2.out _).mono ?_); rintro e w' ⟨rfl, hd⟩; obtain ⟨n2, rfl⟩ := hd.out; clear hd))
      go_ret
      exact ⟨rfl, by repeat (first | exact HB2.out | apply pw_below_drewN)⟩
    | true =>
      cases b3 : btw a0_10 0 3 with
      | false =>
        have HC1 := Aside0.mk (iwithin_is _ _ _ _ b1)
        have HC2 := Aside0.mk (iwithin_is _ _ _ _ b2)
        have HC3 := Aside0.mk (iwithin_is _ _ _ _ b3)
        simp only [b1, b2, b3, Bool.and_true, Bool.and_false, Bool.true_and, Bool.false_and, Bool.not_true, Bool.not_false, if_true, Bool.true_eq_false, if_false, Int.reduceEq, if_pos, reduceIte] at h
        subst h
        clear b1 b2 b3
        go_enter Tryz.func53, Tryz.ntmps53
        go_wp2_with (first | ((with_reducible refine gate_dst (N := 1) rfl ?_); refine box_event ?hg (N := 1) ?hd (cs := #[.int .i64 a0_0, .int .i64 a0_1, .slice A0_2 l0_2.length c0_2, .slice A0_3 l0_3.length c0_3, .slice A0_4 l0_4.length c0_4, .int .i64 a0_5, .int .i64 a0_6, .int .i64 a0_7, .int .i64 a0_8, .slice A0_9 l0_9.length c0_9, .int .i64 a0_10, .bool a0_11]) (t := 68) ?hr ?_; (case hd => rfl); (case hg => rfl); (case hr => first | (go_simp; done) | (go_simp; rfl)); intro gb hg w2 hbox hb; have HB2 := Aside0.mk hb; have BK := Aside0.mk hbox; have k0 := (blk_cell hbox 0).trans rfl; have k1 := (blk_cell hbox 1).trans rfl; have k2 := (blk_cell hbox 2).trans rfl; have k3 := (blk_cell hbox 3).trans rfl; have k4 := (blk_cell hbox 4).trans rfl; have k5 := (blk_cell hbox 5).trans rfl; have k6 := (blk_cell hbox 6).trans rfl; have k7 := (blk_cell hbox 7).trans rfl; have k8 := (blk_cell hbox 8).trans rfl; have k9 := (blk_cell hbox 9).trans rfl; have k10 := (blk_cell hbox 10).trans rfl; have k11 := (blk_cell hbox 11).trans rfl; clear hb hbox hg) | (go_at_call 48; (with_reducible refine (HC1.out _).mono ?_); rintro e w' ⟨rfl, hd⟩; obtain ⟨n1, rfl⟩ := hd.out; clear hd) | (go_at_call 48; (with_reducible refine (HC2.out _).mono ?_); rintro e w' ⟨rfl, hd⟩; obtain ⟨n2, rfl⟩ := hd.out; clear hd) | (go_at_call 48; (with_reducible refine (HC3.out _).mono ?_); rintro e w' ⟨rfl, hd⟩; obtain ⟨n3, rfl⟩ := hd.out; clear hd))
        go_ret
        exact ⟨rfl, by repeat (first | exact HB2.out | apply pw_below_drewN)⟩
      | true =>
        have HC1 := Aside0.mk (iwithin_is _ _ _ _ b1)
        have HC2 := Aside0.mk (iwithin_is _ _ _ _ b2)
        have HC3 := Aside0.mk (iwithin_is _ _ _ _ b3)
        have hk : a0_1 = 0 ∨ a0_1 = 1 ∨ a0_1 = 2 ∨ a0_1 = 3 := by simp [btw] at b2; omega
        simp only [b1, b2, b3, Bool.and_true, Bool.true_eq_false, if_false] at h
        clear b1 b2 b3
        rcases hk with rfl | rfl | rfl | rfl
        · simp only [Int.reduceEq, if_false, reduceIte] at h
          subst h
          go_enter Tryz.func53, Tryz.ntmps53
          go_wp2_with (first | ((with_reducible refine gate_dst (N := 1) rfl ?_); refine box_event ?hg (N := 1) ?hd (cs := #[.int .i64 a0_0, .int .i64 0, .slice A0_2 l0_2.length c0_2, .slice A0_3 l0_3.length c0_3, .slice A0_4 l0_4.length c0_4, .int .i64 a0_5, .int .i64 a0_6, .int .i64 a0_7, .int .i64 a0_8, .slice A0_9 l0_9.length c0_9, .int .i64 a0_10, .bool a0_11]) (t := 68) ?hr ?_; (case hd => rfl); (case hg => rfl); (case hr => first | (go_simp; done) | (go_simp; rfl)); intro gb hg w2 hbox hb; have HB2 := Aside0.mk hb; have BK := Aside0.mk hbox; have k0 := (blk_cell hbox 0).trans rfl; have k1 := (blk_cell hbox 1).trans rfl; have k2 := (blk_cell hbox 2).trans rfl; have k3 := (blk_cell hbox 3).trans rfl; have k4 := (blk_cell hbox 4).trans rfl; have k5 := (blk_cell hbox 5).trans rfl; have k6 := (blk_cell hbox 6).trans rfl; have k7 := (blk_cell hbox 7).trans rfl; have k8 := (blk_cell hbox 8).trans rfl; have k9 := (blk_cell hbox 9).trans rfl; have k10 := (blk_cell hbox 10).trans rfl; have k11 := (blk_cell hbox 11).trans rfl; clear hb hbox hg) | (go_at_call 48; (with_reducible refine (HC1.out _).mono ?_); rintro e w' ⟨rfl, hd⟩; obtain ⟨n1, rfl⟩ := hd.out; clear hd) | (go_at_call 48; (with_reducible refine (HC2.out _).mono ?_); rintro e w' ⟨rfl, hd⟩; obtain ⟨n2, rfl⟩ := hd.out; clear hd) | (go_at_call 48; (with_reducible refine (HC3.out _).mono ?_); rintro e w' ⟨rfl, hd⟩; obtain ⟨n3, rfl⟩ := hd.out; clear hd))
          go_ret
          exact ⟨rfl, by repeat (first | exact HB2.out | apply pw_below_drewN)⟩
        · simp only [Int.reduceEq, if_false, if_true, reduceIte] at h
          subst h
          go_enter Tryz.func53, Tryz.ntmps53
          go_wp2_with (first | ((with_reducible refine gate_dst (N := 1) rfl ?_); refine box_event ?hg (N := 1) ?hd (cs := #[.int .i64 a0_0, .int .i64 1, .slice A0_2 l0_2.length c0_2, .slice A0_3 l0_3.length c0_3, .slice A0_4 l0_4.length c0_4, .int .i64 a0_5, .int .i64 a0_6, .int .i64 a0_7, .int .i64 a0_8, .slice A0_9 l0_9.length c0_9, .int .i64 a0_10, .bool a0_11]) (t := 68) ?hr ?_; (case hd => rfl); (case hg => rfl); (case hr => first | (go_simp; done) | (go_simp; rfl)); intro gb hg w2 hbox hb; have HB2 := Aside0.mk hb; have BK := Aside0.mk hbox; have k0 := (blk_cell hbox 0).trans rfl; have k1 := (blk_cell hbox 1).trans rfl; have k2 := (blk_cell hbox 2).trans rfl; have k3 := (blk_cell hbox 3).trans rfl; have k4 := (blk_cell hbox 4).trans rfl; have k5 := (blk_cell hbox 5).trans rfl; have k6 := (blk_cell hbox 6).trans rfl; have k7 := (blk_cell hbox 7).trans rfl; have k8 := (blk_cell hbox 8).trans rfl; have k9 := (blk_cell hbox 9).trans rfl; have k10 := (blk_cell hbox 10).trans rfl; have k11 := (blk_cell hbox 11).trans rfl; clear hb hbox hg) | (go_at_call 48; (with_reducible refine (HC1.out _).mono ?_); rintro e w' ⟨rfl, hd⟩; obtain ⟨n1, rfl⟩ := hd.out; clear hd) | (go_at_call 48; (with_reducible refine (HC2.out _).mono ?_); rintro e w' ⟨rfl, hd⟩; obtain ⟨n2, rfl⟩ := hd.out; clear hd) | (go_at_call 48; (with_reducible refine (HC3.out _).mono ?_); rintro e w' ⟨rfl, hd⟩; obtain ⟨n3, rfl⟩ := hd.out; clear hd))
          go_ret
          exact ⟨rfl, by repeat (first | exact HB2.out | apply pw_below_drewN)⟩
        · simp only [Int.reduceEq, if_false, if_true, reduceIte] at h
          cases b4 : btw a0_7 1 64 with
          | false =>
            simp only [b4, Bool.and_true, Bool.and_false, Bool.true_and, Bool.false_and, Bool.not_true, Bool.not_false, if_true, Bool.true_eq_false, if_false, Int.reduceEq, if_pos, reduceIte] at h
            subst h
            have HC4 := Aside0.mk (iside_is _ _ b4)
            clear b4
            go_enter Tryz.func53, Tryz.ntmps53
            go_wp2_with (first | ((with_reducible refine gate_dst (N := 1) rfl ?_); refine box_event ?hg (N := 1) ?hd (cs := #[.int .i64 a0_0, .int .i64 2, .slice A0_2 l0_2.length c0_2, .slice A0_3 l0_3.length c0_3, .slice A0_4 l0_4.length c0_4, .int .i64 a0_5, .int .i64 a0_6, .int .i64 a0_7, .int .i64 a0_8, .slice A0_9 l0_9.length c0_9, .int .i64 a0_10, .bool a0_11]) (t := 68) ?hr ?_; (case hd => rfl); (case hg => rfl); (case hr => first | (go_simp; done) | (go_simp; rfl)); intro gb hg w2 hbox hb; have HB2 := Aside0.mk hb; have BK := Aside0.mk hbox; have k0 := (blk_cell hbox 0).trans rfl; have k1 := (blk_cell hbox 1).trans rfl; have k2 := (blk_cell hbox 2).trans rfl; have k3 := (blk_cell hbox 3).trans rfl; have k4 := (blk_cell hbox 4).trans rfl; have k5 := (blk_cell hbox 5).trans rfl; have k6 := (blk_cell hbox 6).trans rfl; have k7 := (blk_cell hbox 7).trans rfl; have k8 := (blk_cell hbox 8).trans rfl; have k9 := (blk_cell hbox 9).trans rfl; have k10 := (blk_cell hbox 10).trans rfl; have k11 := (blk_cell hbox 11).trans rfl; clear hb hbox hg) | (go_at_call 48; (with_reducible refine (HC1.out _).mono ?_); rintro e w' ⟨rfl, hd⟩; obtain ⟨n1, rfl⟩ := hd.out; clear hd) | (go_at_call 48; (with_reducible refine (HC2.out _).mono ?_); rintro e w' ⟨rfl, hd⟩; obtain ⟨n2, rfl⟩ := hd.out; clear hd) | (go_at_call 48; (with_reducible refine (HC3.out _).mono ?_); rintro e w' ⟨rfl, hd⟩; obtain ⟨n3, rfl⟩ := hd.out; clear hd) | (go_at_call 70; (with_reducible refine (HC4.out _).mono ?_); rintro e w' ⟨rfl, hd⟩; obtain ⟨n4, rfl⟩ := hd.out; clear hd))
            go_ret
            exact ⟨rfl, by repeat (first | exact HB2.out | apply pw_below_drewN)⟩
          | true =>
            cases b5 : btw a0_8 1 64 with
            | false =>
              simp only [b4, b5, Bool.and_true, Bool.and_false, Bool.true_and, Bool.false_and, Bool.not_true, Bool.not_false, if_true, Bool.true_eq_false, if_false, Int.reduceEq, if_pos, reduceIte] at h
              subst h
              have HC4 := Aside0.mk (iside_is _ _ b4)
              have HC5 := Aside0.mk (iside_is _ _ b5)
              clear b4 b5
              go_enter Tryz.func53, Tryz.ntmps53
              go_wp2_with (first | ((with_reducible refine gate_dst (N := 1) rfl ?_); refine box_event ?hg (N := 1) ?hd (cs := #[.int .i64 a0_0, .int .i64 2, .slice A0_2 l0_2.length c0_2, .slice A0_3 l0_3.length c0_3, .slice A0_4 l0_4.length c0_4, .int .i64 a0_5, .int .i64 a0_6, .int .i64 a0_7, .int .i64 a0_8, .slice A0_9 l0_9.length c0_9, .int .i64 a0_10, .bool a0_11]) (t := 68) ?hr ?_; (case hd => rfl); (case hg => rfl); (case hr => first | (go_simp; done) | (go_simp; rfl)); intro gb hg w2 hbox hb; have HB2 := Aside0.mk hb; have BK := Aside0.mk hbox; have k0 := (blk_cell hbox 0).trans rfl; have k1 := (blk_cell hbox 1).trans rfl; have k2 := (blk_cell hbox 2).trans rfl; have k3 := (blk_cell hbox 3).trans rfl; have k4 := (blk_cell hbox 4).trans rfl; have k5 := (blk_cell hbox 5).trans rfl; have k6 := (blk_cell hbox 6).trans rfl; have k7 := (blk_cell hbox 7).trans rfl; have k8 := (blk_cell hbox 8).trans rfl; have k9 := (blk_cell hbox 9).trans rfl; have k10 := (blk_cell hbox 10).trans rfl; have k11 := (blk_cell hbox 11).trans rfl; clear hb hbox hg) | (go_at_call 48; (with_reducible refine (HC1.out _).mono ?_); rintro e w' ⟨rfl, hd⟩; obtain ⟨n1, rfl⟩ := hd.out; clear hd) | (go_at_call 48; (with_reducible refine (HC2.out _).mono ?_); rintro e w' ⟨rfl, hd⟩; obtain ⟨n2, rfl⟩ := hd.out; clear hd) | (go_at_call 48; (with_reducible refine (HC3.out _).mono ?_); rintro e w' ⟨rfl, hd⟩; obtain ⟨n3, rfl⟩ := hd.out; clear hd) | (go_at_call 70; (with_reducible refine (HC4.out _).mono ?_); rintro e w' ⟨rfl, hd⟩; obtain ⟨n4, rfl⟩ := hd.out; clear hd) | (go_at_call 70; (with_reducible refine (HC5.out _).mono ?_); rintro e w' ⟨rfl, hd⟩; obtain ⟨n5, rfl⟩ := hd.out; clear hd))
              go_ret
              exact ⟨rfl, by repeat (first | exact HB2.out | apply pw_below_drewN)⟩
            | true =>
              cases b6 : btw (l0_9.length : Int) 1 4 with
              | false =>
                simp only [b4, b5, b6, Bool.and_true, Bool.and_false, Bool.true_and, Bool.false_and, Bool.not_true, Bool.not_false, if_true, Bool.true_eq_false, if_false, Int.reduceEq, if_pos, reduceIte] at h
                subst h
                have HC4 := Aside0.mk (iside_is _ _ b4)
                have HC5 := Aside0.mk (iside_is _ _ b5)
                have HC6 := Aside0.mk (iwithin_is _ _ _ _ b6)
                clear b4 b5 b6
                go_enter Tryz.func53, Tryz.ntmps53
                go_wp2_with (first | ((with_reducible refine gate_dst (N := 1) rfl ?_); refine box_event ?hg (N := 1) ?hd (cs := #[.int .i64 a0_0, .int .i64 2, .slice A0_2 l0_2.length c0_2, .slice A0_3 l0_3.length c0_3, .slice A0_4 l0_4.length c0_4, .int .i64 a0_5, .int .i64 a0_6, .int .i64 a0_7, .int .i64 a0_8, .slice A0_9 l0_9.length c0_9, .int .i64 a0_10, .bool a0_11]) (t := 68) ?hr ?_; (case hd => rfl); (case hg => rfl); (case hr => first | (go_simp; done) | (go_simp; rfl)); intro gb hg w2 hbox hb; have HB2 := Aside0.mk hb; have BK := Aside0.mk hbox; have k0 := (blk_cell hbox 0).trans rfl; have k1 := (blk_cell hbox 1).trans rfl; have k2 := (blk_cell hbox 2).trans rfl; have k3 := (blk_cell hbox 3).trans rfl; have k4 := (blk_cell hbox 4).trans rfl; have k5 := (blk_cell hbox 5).trans rfl; have k6 := (blk_cell hbox 6).trans rfl; have k7 := (blk_cell hbox 7).trans rfl; have k8 := (blk_cell hbox 8).trans rfl; have k9 := (blk_cell hbox 9).trans rfl; have k10 := (blk_cell hbox 10).trans rfl; have k11 := (blk_cell hbox 11).trans rfl; clear hb hbox hg) | (go_at_call 48; (with_reducible refine (HC1.out _).mono ?_); rintro e w' ⟨rfl, hd⟩; obtain ⟨n1, rfl⟩ := hd.out; clear hd) | (go_at_call 48; (with_reducible refine (HC2.out _).mono ?_); rintro e w' ⟨rfl, hd⟩; obtain ⟨n2, rfl⟩ := hd.out; clear hd) | (go_at_call 48; (with_reducible refine (HC3.out _).mono ?_); rintro e w' ⟨rfl, hd⟩; obtain ⟨n3, rfl⟩ := hd.out; clear hd) | (go_at_call 70; (with_reducible refine (HC4.out _).mono ?_); rintro e w' ⟨rfl, hd⟩; obtain ⟨n4, rfl⟩ := hd.out; clear hd) | (go_at_call 70; (with_reducible refine (HC5.out _).mono ?_); rintro e w' ⟨rfl, hd⟩; obtain ⟨n5, rfl⟩ := hd.out; clear hd) | (go_at_call 48; (with_reducible refine (HC6.out _).mono ?_); rintro e w' ⟨rfl, hd⟩; obtain ⟨n6, rfl⟩ := hd.out; clear hd))
                go_ret
                exact ⟨rfl, by repeat (first | exact HB2.out | apply pw_below_drewN)⟩
              | true =>
                cases b7 : l0_9.any (fun v => !(btw v 0 4095)) with
                | true =>
                  simp only [b4, b5, b6, b7, Bool.and_true, Bool.and_false, Bool.true_and, Bool.false_and, Bool.not_true, Bool.not_false, if_true, Bool.true_eq_false, if_false, Int.reduceEq, if_pos, reduceIte] at h
                  subst h
                  have HC4 := Aside0.mk (iside_is _ _ b4)
                  have HC5 := Aside0.mk (iside_is _ _ b5)
                  have HC6 := Aside0.mk (iwithin_is _ _ _ _ b6)
                  have HC7 := Aside0.mk b7
                  clear b4 b5 b6 b7
                  go_enter Tryz.func53, Tryz.ntmps53
                  go_wp2_with (first | ((with_reducible refine gate_dst (N := 1) rfl ?_); refine box_event ?hg (N := 1) ?hd (cs := #[.int .i64 a0_0, .int .i64 2, .slice A0_2 l0_2.length c0_2, .slice A0_3 l0_3.length c0_3, .slice A0_4 l0_4.length c0_4, .int .i64 a0_5, .int .i64 a0_6, .int .i64 a0_7, .int .i64 a0_8, .slice A0_9 l0_9.length c0_9, .int .i64 a0_10, .bool a0_11]) (t := 68) ?hr ?_; (case hd => rfl); (case hg => rfl); (case hr => first | (go_simp; done) | (go_simp; rfl)); intro gb hg w2 hbox hb; have HB2 := Aside0.mk hb; have BK := Aside0.mk hbox; have k0 := (blk_cell hbox 0).trans rfl; have k1 := (blk_cell hbox 1).trans rfl; have k2 := (blk_cell hbox 2).trans rfl; have k3 := (blk_cell hbox 3).trans rfl; have k4 := (blk_cell hbox 4).trans rfl; have k5 := (blk_cell hbox 5).trans rfl; have k6 := (blk_cell hbox 6).trans rfl; have k7 := (blk_cell hbox 7).trans rfl; have k8 := (blk_cell hbox 8).trans rfl; have k9 := (blk_cell hbox 9).trans rfl; have k10 := (blk_cell hbox 10).trans rfl; have k11 := (blk_cell hbox 11).trans rfl; clear hb hbox hg) | (go_at_call 48; (with_reducible refine (HC1.out _).mono ?_); rintro e w' ⟨rfl, hd⟩; obtain ⟨n1, rfl⟩ := hd.out; clear hd) | (go_at_call 48; (with_reducible refine (HC2.out _).mono ?_); rintro e w' ⟨rfl, hd⟩; obtain ⟨n2, rfl⟩ := hd.out; clear hd) | (go_at_call 48; (with_reducible refine (HC3.out _).mono ?_); rintro e w' ⟨rfl, hd⟩; obtain ⟨n3, rfl⟩ := hd.out; clear hd) | (go_at_call 70; (with_reducible refine (HC4.out _).mono ?_); rintro e w' ⟨rfl, hd⟩; obtain ⟨n4, rfl⟩ := hd.out; clear hd) | (go_at_call 70; (with_reducible refine (HC5.out _).mono ?_); rintro e w' ⟨rfl, hd⟩; obtain ⟨n5, rfl⟩ := hd.out; clear hd) | (go_at_call 48; (with_reducible refine (HC6.out _).mono ?_); rintro e w' ⟨rfl, hd⟩; obtain ⟨n6, rfl⟩ := hd.out; clear hd) | (go_at_call 56; (with_reducible refine (ContainsFunc_int.calls 109 #[] (fun v => !(btw v 0 4095)) A0_9 c0_9 l0_9 _ ?hC ?hP).mono ?_); (case hC => exact Kd.C_below HR9.out (by repeat (first | exact HB2.out | apply pw_below_drewN))); (case hP => exact pred_109 _); rintro e w' ⟨rfl, hb⟩; have HBc7 := Aside0.mk (pw_below_trans (by repeat (first | exact HB2.out | apply pw_below_drewN)) hb); have BKc7 := Aside0.mk ((hb.block gb (by exact blk_lt BK.out)).trans (by exact BK.out)); clear hb; rw [HC7.out]; have k0 := (blk_cell BKc7.out 0).trans rfl; have k1 := (blk_cell BKc7.out 1).trans rfl; have k2 := (blk_cell BKc7.out 2).trans rfl; have k3 := (blk_cell BKc7.out 3).trans rfl; have k4 := (blk_cell BKc7.out 4).trans rfl; have k5 := (blk_cell BKc7.out 5).trans rfl; have k6 := (blk_cell BKc7.out 6).trans rfl; have k7 := (blk_cell BKc7.out 7).trans rfl; have k8 := (blk_cell BKc7.out 8).trans rfl; have k9 := (blk_cell BKc7.out 9).trans rfl; have k10 := (blk_cell BKc7.out 10).trans rfl; have k11 := (blk_cell BKc7.out 11).trans rfl))
                  go_ret
                  exact ⟨rfl, by repeat (first | exact HBc7.out | apply pw_below_drewN)⟩
                | false =>
                  cases b8 : decide ((l0_3.length : Int) ≤ 8) with
                  | false =>
                    simp only [b4, b5, b6, b7, b8, Bool.and_true, Bool.and_false, Bool.true_and, Bool.false_and, Bool.not_true, Bool.not_false, if_true, Bool.true_eq_false, if_false, Int.reduceEq, if_pos, reduceIte] at h
                    subst h
                    have HC4 := Aside0.mk (iside_is _ _ b4)
                    have HC5 := Aside0.mk (iside_is _ _ b5)
                    have HC6 := Aside0.mk (iwithin_is _ _ _ _ b6)
                    have HC7 := Aside0.mk b7
                    clear b4 b5 b6 b7
                    go_enter Tryz.func53, Tryz.ntmps53
                    go_wp2_with (first | ((with_reducible refine gate_dst (N := 1) rfl ?_); refine box_event ?hg (N := 1) ?hd (cs := #[.int .i64 a0_0, .int .i64 2, .slice A0_2 l0_2.length c0_2, .slice A0_3 l0_3.length c0_3, .slice A0_4 l0_4.length c0_4, .int .i64 a0_5, .int .i64 a0_6, .int .i64 a0_7, .int .i64 a0_8, .slice A0_9 l0_9.length c0_9, .int .i64 a0_10, .bool a0_11]) (t := 68) ?hr ?_; (case hd => rfl); (case hg => rfl); (case hr => first | (go_simp; done) | (go_simp; rfl)); intro gb hg w2 hbox hb; have HB2 := Aside0.mk hb; have BK := Aside0.mk hbox; have k0 := (blk_cell hbox 0).trans rfl; have k1 := (blk_cell hbox 1).trans rfl; have k2 := (blk_cell hbox 2).trans rfl; have k3 := (blk_cell hbox 3).trans rfl; have k4 := (blk_cell hbox 4).trans rfl; have k5 := (blk_cell hbox 5).trans rfl; have k6 := (blk_cell hbox 6).trans rfl; have k7 := (blk_cell hbox 7).trans rfl; have k8 := (blk_cell hbox 8).trans rfl; have k9 := (blk_cell hbox 9).trans rfl; have k10 := (blk_cell hbox 10).trans rfl; have k11 := (blk_cell hbox 11).trans rfl; clear hb hbox hg) | (go_at_call 48; (with_reducible refine (HC1.out _).mono ?_); rintro e w' ⟨rfl, hd⟩; obtain ⟨n1, rfl⟩ := hd.out; clear hd) | (go_at_call 48; (with_reducible refine (HC2.out _).mono ?_); rintro e w' ⟨rfl, hd⟩; obtain ⟨n2, rfl⟩ := hd.out; clear hd) | (go_at_call 48; (with_reducible refine (HC3.out _).mono ?_); rintro e w' ⟨rfl, hd⟩; obtain ⟨n3, rfl⟩ := hd.out; clear hd) | (go_at_call 70; (with_reducible refine (HC4.out _).mono ?_); rintro e w' ⟨rfl, hd⟩; obtain ⟨n4, rfl⟩ := hd.out; clear hd) | (go_at_call 70; (with_reducible refine (HC5.out _).mono ?_); rintro e w' ⟨rfl, hd⟩; obtain ⟨n5, rfl⟩ := hd.out; clear hd) | (go_at_call 48; (with_reducible refine (HC6.out _).mono ?_); rintro e w' ⟨rfl, hd⟩; obtain ⟨n6, rfl⟩ := hd.out; clear hd) | (go_at_call 56; (with_reducible refine (ContainsFunc_int.calls 109 #[] (fun v => !(btw v 0 4095)) A0_9 c0_9 l0_9 _ ?hC ?hP).mono ?_); (case hC => exact Kd.C_below HR9.out (by repeat (first | exact HB2.out | apply pw_below_drewN))); (case hP => exact pred_109 _); rintro e w' ⟨rfl, hb⟩; have HBc7 := Aside0.mk (pw_below_trans (by repeat (first | exact HB2.out | apply pw_below_drewN)) hb); have BKc7 := Aside0.mk ((hb.block gb (by exact blk_lt BK.out)).trans (by exact BK.out)); clear hb; rw [HC7.out]; have k0 := (blk_cell BKc7.out 0).trans rfl; have k1 := (blk_cell BKc7.out 1).trans rfl; have k2 := (blk_cell BKc7.out 2).trans rfl; have k3 := (blk_cell BKc7.out 3).trans rfl; have k4 := (blk_cell BKc7.out 4).trans rfl; have k5 := (blk_cell BKc7.out 5).trans rfl; have k6 := (blk_cell BKc7.out 6).trans rfl; have k7 := (blk_cell BKc7.out 7).trans rfl; have k8 := (blk_cell BKc7.out 8).trans rfl; have k9 := (blk_cell BKc7.out 9).trans rfl; have k10 := (blk_cell BKc7.out 10).trans rfl; have k11 := (blk_cell BKc7.out 11).trans rfl))
                    go_ret
                    exact ⟨rfl, by repeat (first | exact HBc7.out | apply pw_below_drewN)⟩
                  | true =>
                    cases b9 : ((l0_4.length : Int) == wrap64 (2 * (l0_3.length : Int))) with
                    | false =>
                      simp only [b4, b5, b6, b7, b8, b9, Bool.and_true, Bool.and_false, Bool.true_and, Bool.false_and, Bool.not_true, Bool.not_false, if_true, Bool.true_eq_false, if_false, Int.reduceEq, if_pos, reduceIte] at h
                      subst h
                      have HC4 := Aside0.mk (iside_is _ _ b4)
                      have HC5 := Aside0.mk (iside_is _ _ b5)
                      have HC6 := Aside0.mk (iwithin_is _ _ _ _ b6)
                      have HC7 := Aside0.mk b7
                      clear b4 b5 b6 b7
                      go_enter Tryz.func53, Tryz.ntmps53
                      go_wp2_with (first | ((with_reducible refine gate_dst (N := 1) rfl ?_); refine box_event ?hg (N := 1) ?hd (cs := #[.int .i64 a0_0, .int .i64 2, .slice A0_2 l0_2.length c0_2, .slice A0_3 l0_3.length c0_3, .slice A0_4 l0_4.length c0_4, .int .i64 a0_5, .int .i64 a0_6, .int .i64 a0_7, .int .i64 a0_8, .slice A0_9 l0_9.length c0_9, .int .i64 a0_10, .bool a0_11]) (t := 68) ?hr ?_; (case hd => rfl); (case hg => rfl); (case hr => first | (go_simp; done) | (go_simp; rfl)); intro gb hg w2 hbox hb; have HB2 := Aside0.mk hb; have BK := Aside0.mk hbox; have k0 := (blk_cell hbox 0).trans rfl; have k1 := (blk_cell hbox 1).trans rfl; have k2 := (blk_cell hbox 2).trans rfl; have k3 := (blk_cell hbox 3).trans rfl; have k4 := (blk_cell hbox 4).trans rfl; have k5 := (blk_cell hbox 5).trans rfl; have k6 := (blk_cell hbox 6).trans rfl; have k7 := (blk_cell hbox 7).trans rfl; have k8 := (blk_cell hbox 8).trans rfl; have k9 := (blk_cell hbox 9).trans rfl; have k10 := (blk_cell hbox 10).trans rfl; have k11 := (blk_cell hbox 11).trans rfl; clear hb hbox hg) | (go_at_call 48; (with_reducible refine (HC1.out _).mono ?_); rintro e w' ⟨rfl, hd⟩; obtain ⟨n1, rfl⟩ := hd.out; clear hd) | (go_at_call 48; (with_reducible refine (HC2.out _).mono ?_); rintro e w' ⟨rfl, hd⟩; obtain ⟨n2, rfl⟩ := hd.out; clear hd) | (go_at_call 48; (with_reducible refine (HC3.out _).mono ?_); rintro e w' ⟨rfl, hd⟩; obtain ⟨n3, rfl⟩ := hd.out; clear hd) | (go_at_call 70; (with_reducible refine (HC4.out _).mono ?_); rintro e w' ⟨rfl, hd⟩; obtain ⟨n4, rfl⟩ := hd.out; clear hd) | (go_at_call 70; (with_reducible refine (HC5.out _).mono ?_); rintro e w' ⟨rfl, hd⟩; obtain ⟨n5, rfl⟩ := hd.out; clear hd) | (go_at_call 48; (with_reducible refine (HC6.out _).mono ?_); rintro e w' ⟨rfl, hd⟩; obtain ⟨n6, rfl⟩ := hd.out; clear hd) | (go_at_call 56; (with_reducible refine (ContainsFunc_int.calls 109 #[] (fun v => !(btw v 0 4095)) A0_9 c0_9 l0_9 _ ?hC ?hP).mono ?_); (case hC => exact Kd.C_below HR9.out (by repeat (first | exact HB2.out | apply pw_below_drewN))); (case hP => exact pred_109 _); rintro e w' ⟨rfl, hb⟩; have HBc7 := Aside0.mk (pw_below_trans (by repeat (first | exact HB2.out | apply pw_below_drewN)) hb); have BKc7 := Aside0.mk ((hb.block gb (by exact blk_lt BK.out)).trans (by exact BK.out)); clear hb; rw [HC7.out]; have k0 := (blk_cell BKc7.out 0).trans rfl; have k1 := (blk_cell BKc7.out 1).trans rfl; have k2 := (blk_cell BKc7.out 2).trans rfl; have k3 := (blk_cell BKc7.out 3).trans rfl; have k4 := (blk_cell BKc7.out 4).trans rfl; have k5 := (blk_cell BKc7.out 5).trans rfl; have k6 := (blk_cell BKc7.out 6).trans rfl; have k7 := (blk_cell BKc7.out 7).trans rfl; have k8 := (blk_cell BKc7.out 8).trans rfl; have k9 := (blk_cell BKc7.out 9).trans rfl; have k10 := (blk_cell BKc7.out 10).trans rfl; have k11 := (blk_cell BKc7.out 11).trans rfl))
                      go_ret
                      exact ⟨rfl, by repeat (first | exact HBc7.out | apply pw_below_drewN)⟩
                    | true =>
                      cases b10 : l0_4.any (fun v => !(btw v (-64) 64)) with
                      | false =>
                        simp only [b4, b5, b6, b7, b8, b9, b10, Bool.and_true, Bool.and_false, Bool.true_and, Bool.false_and, Bool.not_true, Bool.not_false, if_true, Bool.true_eq_false, if_false, Int.reduceEq, if_pos, reduceIte] at h
                        subst h
                        have HC4 := Aside0.mk (iside_is _ _ b4)
                        have HC5 := Aside0.mk (iside_is _ _ b5)
                        have HC6 := Aside0.mk (iwithin_is _ _ _ _ b6)
                        have HC7 := Aside0.mk b7
                        have HC10 := Aside0.mk b10
                        clear b4 b5 b6 b7 b10
                        go_enter Tryz.func53, Tryz.ntmps53
                        go_wp2_with (first | ((with_reducible refine gate_dst (N := 1) rfl ?_); refine box_event ?hg (N := 1) ?hd (cs := #[.int .i64 a0_0, .int .i64 2, .slice A0_2 l0_2.length c0_2, .slice A0_3 l0_3.length c0_3, .slice A0_4 l0_4.length c0_4, .int .i64 a0_5, .int .i64 a0_6, .int .i64 a0_7, .int .i64 a0_8, .slice A0_9 l0_9.length c0_9, .int .i64 a0_10, .bool a0_11]) (t := 68) ?hr ?_; (case hd => rfl); (case hg => rfl); (case hr => first | (go_simp; done) | (go_simp; rfl)); intro gb hg w2 hbox hb; have HB2 := Aside0.mk hb; have BK := Aside0.mk hbox; have k0 := (blk_cell hbox 0).trans rfl; have k1 := (blk_cell hbox 1).trans rfl; have k2 := (blk_cell hbox 2).trans rfl; have k3 := (blk_cell hbox 3).trans rfl; have k4 := (blk_cell hbox 4).trans rfl; have k5 := (blk_cell hbox 5).trans rfl; have k6 := (blk_cell hbox 6).trans rfl; have k7 := (blk_cell hbox 7).trans rfl; have k8 := (blk_cell hbox 8).trans rfl; have k9 := (blk_cell hbox 9).trans rfl; have k10 := (blk_cell hbox 10).trans rfl; have k11 := (blk_cell hbox 11).trans rfl; clear hb hbox hg) | (go_at_call 48; (with_reducible refine (HC1.out _).mono ?_); rintro e w' ⟨rfl, hd⟩; obtain ⟨n1, rfl⟩ := hd.out; clear hd) | (go_at_call 48; (with_reducible refine (HC2.out _).mono ?_); rintro e w' ⟨rfl, hd⟩; obtain ⟨n2, rfl⟩ := hd.out; clear hd) | (go_at_call 48; (with_reducible refine (HC3.out _).mono ?_); rintro e w' ⟨rfl, hd⟩; obtain ⟨n3, rfl⟩ := hd.out; clear hd) | (go_at_call 70; (with_reducible refine (HC4.out _).mono ?_); rintro e w' ⟨rfl, hd⟩; obtain ⟨n4, rfl⟩ := hd.out; clear hd) | (go_at_call 70; (with_reducible refine (HC5.out _).mono ?_); rintro e w' ⟨rfl, hd⟩; obtain ⟨n5, rfl⟩ := hd.out; clear hd) | (go_at_call 48; (with_reducible refine (HC6.out _).mono ?_); rintro e w' ⟨rfl, hd⟩; obtain ⟨n6, rfl⟩ := hd.out; clear hd) | (go_at_call 56; (with_reducible refine (ContainsFunc_int.calls 109 #[] (fun v => !(btw v 0 4095)) A0_9 c0_9 l0_9 _ ?hC ?hP).mono ?_); (case hC => exact Kd.C_below HR9.out (by repeat (first | exact HB2.out | apply pw_below_drewN))); (case hP => exact pred_109 _); rintro e w' ⟨rfl, hb⟩; have HBc7 := Aside0.mk (pw_below_trans (by repeat (first | exact HB2.out | apply pw_below_drewN)) hb); have BKc7 := Aside0.mk ((hb.block gb (by exact blk_lt BK.out)).trans (by exact BK.out)); clear hb; rw [HC7.out]; have k0 := (blk_cell BKc7.out 0).trans rfl; have k1 := (blk_cell BKc7.out 1).trans rfl; have k2 := (blk_cell BKc7.out 2).trans rfl; have k3 := (blk_cell BKc7.out 3).trans rfl; have k4 := (blk_cell BKc7.out 4).trans rfl; have k5 := (blk_cell BKc7.out 5).trans rfl; have k6 := (blk_cell BKc7.out 6).trans rfl; have k7 := (blk_cell BKc7.out 7).trans rfl; have k8 := (blk_cell BKc7.out 8).trans rfl; have k9 := (blk_cell BKc7.out 9).trans rfl; have k10 := (blk_cell BKc7.out 10).trans rfl; have k11 := (blk_cell BKc7.out 11).trans rfl) | (go_at_call 56; (with_reducible refine (ContainsFunc_int.calls 110 #[] (fun v => !(btw v (-64) 64)) A0_4 c0_4 l0_4 _ ?hC ?hP).mono ?_); (case hC => exact Kd.C_below HR4.out (by repeat (first | exact HBc7.out | apply pw_below_drewN))); (case hP => exact pred_110 _); rintro e w' ⟨rfl, hb⟩; have HBc10 := Aside0.mk (pw_below_trans (by repeat (first | exact HBc7.out | apply pw_below_drewN)) hb); have BKc10 := Aside0.mk ((hb.block gb (by exact blk_lt BKc7.out)).trans (by exact BKc7.out)); clear hb; rw [HC10.out]; have k0 := (blk_cell BKc10.out 0).trans rfl; have k1 := (blk_cell BKc10.out 1).trans rfl; have k2 := (blk_cell BKc10.out 2).trans rfl; have k3 := (blk_cell BKc10.out 3).trans rfl; have k4 := (blk_cell BKc10.out 4).trans rfl; have k5 := (blk_cell BKc10.out 5).trans rfl; have k6 := (blk_cell BKc10.out 6).trans rfl; have k7 := (blk_cell BKc10.out 7).trans rfl; have k8 := (blk_cell BKc10.out 8).trans rfl; have k9 := (blk_cell BKc10.out 9).trans rfl; have k10 := (blk_cell BKc10.out 10).trans rfl; have k11 := (blk_cell BKc10.out 11).trans rfl))
                        go_ret
                        exact ⟨rfl, by repeat (first | exact HBc10.out | apply pw_below_drewN)⟩
                      | true =>
                        simp only [b4, b5, b6, b7, b8, b9, b10, Bool.and_true, Bool.and_false, Bool.true_and, Bool.false_and, Bool.not_true, Bool.not_false, if_true, Bool.true_eq_false, if_false, Int.reduceEq, if_pos, reduceIte] at h
                        subst h
                        have HC4 := Aside0.mk (iside_is _ _ b4)
                        have HC5 := Aside0.mk (iside_is _ _ b5)
                        have HC6 := Aside0.mk (iwithin_is _ _ _ _ b6)
                        have HC7 := Aside0.mk b7
                        have HC10 := Aside0.mk b10
                        clear b4 b5 b6 b7 b10
                        go_enter Tryz.func53, Tryz.ntmps53
                        go_wp2_with (first | ((with_reducible refine gate_dst (N := 1) rfl ?_); refine box_event ?hg (N := 1) ?hd (cs := #[.int .i64 a0_0, .int .i64 2, .slice A0_2 l0_2.length c0_2, .slice A0_3 l0_3.length c0_3, .slice A0_4 l0_4.length c0_4, .int .i64 a0_5, .int .i64 a0_6, .int .i64 a0_7, .int .i64 a0_8, .slice A0_9 l0_9.length c0_9, .int .i64 a0_10, .bool a0_11]) (t := 68) ?hr ?_; (case hd => rfl); (case hg => rfl); (case hr => first | (go_simp; done) | (go_simp; rfl)); intro gb hg w2 hbox hb; have HB2 := Aside0.mk hb; have BK := Aside0.mk hbox; have k0 := (blk_cell hbox 0).trans rfl; have k1 := (blk_cell hbox 1).trans rfl; have k2 := (blk_cell hbox 2).trans rfl; have k3 := (blk_cell hbox 3).trans rfl; have k4 := (blk_cell hbox 4).trans rfl; have k5 := (blk_cell hbox 5).trans rfl; have k6 := (blk_cell hbox 6).trans rfl; have k7 := (blk_cell hbox 7).trans rfl; have k8 := (blk_cell hbox 8).trans rfl; have k9 := (blk_cell hbox 9).trans rfl; have k10 := (blk_cell hbox 10).trans rfl; have k11 := (blk_cell hbox 11).trans rfl; clear hb hbox hg) | (go_at_call 48; (with_reducible refine (HC1.out _).mono ?_); rintro e w' ⟨rfl, hd⟩; obtain ⟨n1, rfl⟩ := hd.out; clear hd) | (go_at_call 48; (with_reducible refine (HC2.out _).mono ?_); rintro e w' ⟨rfl, hd⟩; obtain ⟨n2, rfl⟩ := hd.out; clear hd) | (go_at_call 48; (with_reducible refine (HC3.out _).mono ?_); rintro e w' ⟨rfl, hd⟩; obtain ⟨n3, rfl⟩ := hd.out; clear hd) | (go_at_call 70; (with_reducible refine (HC4.out _).mono ?_); rintro e w' ⟨rfl, hd⟩; obtain ⟨n4, rfl⟩ := hd.out; clear hd) | (go_at_call 70; (with_reducible refine (HC5.out _).mono ?_); rintro e w' ⟨rfl, hd⟩; obtain ⟨n5, rfl⟩ := hd.out; clear hd) | (go_at_call 48; (with_reducible refine (HC6.out _).mono ?_); rintro e w' ⟨rfl, hd⟩; obtain ⟨n6, rfl⟩ := hd.out; clear hd) | (go_at_call 56; (with_reducible refine (ContainsFunc_int.calls 109 #[] (fun v => !(btw v 0 4095)) A0_9 c0_9 l0_9 _ ?hC ?hP).mono ?_); (case hC => exact Kd.C_below HR9.out (by repeat (first | exact HB2.out | apply pw_below_drewN))); (case hP => exact pred_109 _); rintro e w' ⟨rfl, hb⟩; have HBc7 := Aside0.mk (pw_below_trans (by repeat (first | exact HB2.out | apply pw_below_drewN)) hb); have BKc7 := Aside0.mk ((hb.block gb (by exact blk_lt BK.out)).trans (by exact BK.out)); clear hb; rw [HC7.out]; have k0 := (blk_cell BKc7.out 0).trans rfl; have k1 := (blk_cell BKc7.out 1).trans rfl; have k2 := (blk_cell BKc7.out 2).trans rfl; have k3 := (blk_cell BKc7.out 3).trans rfl; have k4 := (blk_cell BKc7.out 4).trans rfl; have k5 := (blk_cell BKc7.out 5).trans rfl; have k6 := (blk_cell BKc7.out 6).trans rfl; have k7 := (blk_cell BKc7.out 7).trans rfl; have k8 := (blk_cell BKc7.out 8).trans rfl; have k9 := (blk_cell BKc7.out 9).trans rfl; have k10 := (blk_cell BKc7.out 10).trans rfl; have k11 := (blk_cell BKc7.out 11).trans rfl) | (go_at_call 56; (with_reducible refine (ContainsFunc_int.calls 110 #[] (fun v => !(btw v (-64) 64)) A0_4 c0_4 l0_4 _ ?hC ?hP).mono ?_); (case hC => exact Kd.C_below HR4.out (by repeat (first | exact HBc7.out | apply pw_below_drewN))); (case hP => exact pred_110 _); rintro e w' ⟨rfl, hb⟩; have HBc10 := Aside0.mk (pw_below_trans (by repeat (first | exact HBc7.out | apply pw_below_drewN)) hb); have BKc10 := Aside0.mk ((hb.block gb (by exact blk_lt BKc7.out)).trans (by exact BKc7.out)); clear hb; rw [HC10.out]; have k0 := (blk_cell BKc10.out 0).trans rfl; have k1 := (blk_cell BKc10.out 1).trans rfl; have k2 := (blk_cell BKc10.out 2).trans rfl; have k3 := (blk_cell BKc10.out 3).trans rfl; have k4 := (blk_cell BKc10.out 4).trans rfl; have k5 := (blk_cell BKc10.out 5).trans rfl; have k6 := (blk_cell BKc10.out 6).trans rfl; have k7 := (blk_cell BKc10.out 7).trans rfl; have k8 := (blk_cell BKc10.out 8).trans rfl; have k9 := (blk_cell BKc10.out 9).trans rfl; have k10 := (blk_cell BKc10.out 10).trans rfl; have k11 := (blk_cell BKc10.out 11).trans rfl))
                        go_ret
                        exact ⟨rfl, by repeat (first | exact HBc10.out | apply pw_below_drewN)⟩
        · simp only [Int.reduceEq, if_false, if_true, reduceIte] at h
          cases b4 : btw a0_7 1 64 with
          | false =>
            simp only [b4, Bool.and_true, Bool.and_false, Bool.true_and, Bool.false_and, Bool.not_true, Bool.not_false, if_true, Bool.true_eq_false, if_false, Int.reduceEq, if_pos, reduceIte] at h
            subst h
            have HC4 := Aside0.mk (iside_is _ _ b4)
            clear b4
            go_enter Tryz.func53, Tryz.ntmps53
            go_wp2_with (first | ((with_reducible refine gate_dst (N := 1) rfl ?_); refine box_event ?hg (N := 1) ?hd (cs := #[.int .i64 a0_0, .int .i64 3, .slice A0_2 l0_2.length c0_2, .slice A0_3 l0_3.length c0_3, .slice A0_4 l0_4.length c0_4, .int .i64 a0_5, .int .i64 a0_6, .int .i64 a0_7, .int .i64 a0_8, .slice A0_9 l0_9.length c0_9, .int .i64 a0_10, .bool a0_11]) (t := 68) ?hr ?_; (case hd => rfl); (case hg => rfl); (case hr => first | (go_simp; done) | (go_simp; rfl)); intro gb hg w2 hbox hb; have HB2 := Aside0.mk hb; have BK := Aside0.mk hbox; have k0 := (blk_cell hbox 0).trans rfl; have k1 := (blk_cell hbox 1).trans rfl; have k2 := (blk_cell hbox 2).trans rfl; have k3 := (blk_cell hbox 3).trans rfl; have k4 := (blk_cell hbox 4).trans rfl; have k5 := (blk_cell hbox 5).trans rfl; have k6 := (blk_cell hbox 6).trans rfl; have k7 := (blk_cell hbox 7).trans rfl; have k8 := (blk_cell hbox 8).trans rfl; have k9 := (blk_cell hbox 9).trans rfl; have k10 := (blk_cell hbox 10).trans rfl; have k11 := (blk_cell hbox 11).trans rfl; clear hb hbox hg) | (go_at_call 48; (with_reducible refine (HC1.out _).mono ?_); rintro e w' ⟨rfl, hd⟩; obtain ⟨n1, rfl⟩ := hd.out; clear hd) | (go_at_call 48; (with_reducible refine (HC2.out _).mono ?_); rintro e w' ⟨rfl, hd⟩; obtain ⟨n2, rfl⟩ := hd.out; clear hd) | (go_at_call 48; (with_reducible refine (HC3.out _).mono ?_); rintro e w' ⟨rfl, hd⟩; obtain ⟨n3, rfl⟩ := hd.out; clear hd) | (go_at_call 70; (with_reducible refine (HC4.out _).mono ?_); rintro e w' ⟨rfl, hd⟩; obtain ⟨n4, rfl⟩ := hd.out; clear hd))
            go_ret
            exact ⟨rfl, by repeat (first | exact HB2.out | apply pw_below_drewN)⟩
          | true =>
            cases b5 : btw a0_8 1 64 with
            | false =>
              simp only [b4, b5, Bool.and_true, Bool.and_false, Bool.true_and, Bool.false_and, Bool.not_true, Bool.not_false, if_true, Bool.true_eq_false, if_false, Int.reduceEq, if_pos, reduceIte] at h
              subst h
              have HC4 := Aside0.mk (iside_is _ _ b4)
              have HC5 := Aside0.mk (iside_is _ _ b5)
              clear b4 b5
              go_enter Tryz.func53, Tryz.ntmps53
              go_wp2_with (first | ((with_reducible refine gate_dst (N := 1) rfl ?_); refine box_event ?hg (N := 1) ?hd (cs := #[.int .i64 a0_0, .int .i64 3, .slice A0_2 l0_2.length c0_2, .slice A0_3 l0_3.length c0_3, .slice A0_4 l0_4.length c0_4, .int .i64 a0_5, .int .i64 a0_6, .int .i64 a0_7, .int .i64 a0_8, .slice A0_9 l0_9.length c0_9, .int .i64 a0_10, .bool a0_11]) (t := 68) ?hr ?_; (case hd => rfl); (case hg => rfl); (case hr => first | (go_simp; done) | (go_simp; rfl)); intro gb hg w2 hbox hb; have HB2 := Aside0.mk hb; have BK := Aside0.mk hbox; have k0 := (blk_cell hbox 0).trans rfl; have k1 := (blk_cell hbox 1).trans rfl; have k2 := (blk_cell hbox 2).trans rfl; have k3 := (blk_cell hbox 3).trans rfl; have k4 := (blk_cell hbox 4).trans rfl; have k5 := (blk_cell hbox 5).trans rfl; have k6 := (blk_cell hbox 6).trans rfl; have k7 := (blk_cell hbox 7).trans rfl; have k8 := (blk_cell hbox 8).trans rfl; have k9 := (blk_cell hbox 9).trans rfl; have k10 := (blk_cell hbox 10).trans rfl; have k11 := (blk_cell hbox 11).trans rfl; clear hb hbox hg) | (go_at_call 48; (with_reducible refine (HC1.out _).mono ?_); rintro e w' ⟨rfl, hd⟩; obtain ⟨n1, rfl⟩ := hd.out; clear hd) | (go_at_call 48; (with_reducible refine (HC2.out _).mono ?_); rintro e w' ⟨rfl, hd⟩; obtain ⟨n2, rfl⟩ := hd.out; clear hd) | (go_at_call 48; (with_reducible refine (HC3.out _).mono ?_); rintro e w' ⟨rfl, hd⟩; obtain ⟨n3, rfl⟩ := hd.out; clear hd) | (go_at_call 70; (with_reducible refine (HC4.out _).mono ?_); rintro e w' ⟨rfl, hd⟩; obtain ⟨n4, rfl⟩ := hd.out; clear hd) | (go_at_call 70; (with_reducible refine (HC5.out _).mono ?_); rintro e w' ⟨rfl, hd⟩; obtain ⟨n5, rfl⟩ := hd.out; clear hd))
              go_ret
              exact ⟨rfl, by repeat (first | exact HB2.out | apply pw_below_drewN)⟩
            | true =>
              cases b6 : btw a0_5 1 8 with
              | false =>
                simp only [b4, b5, b6, Bool.and_true, Bool.and_false, Bool.true_and, Bool.false_and, Bool.not_true, Bool.not_false, if_true, Bool.true_eq_false, if_false, Int.reduceEq, if_pos, reduceIte] at h
                subst h
                have HC4 := Aside0.mk (iside_is _ _ b4)
                have HC5 := Aside0.mk (iside_is _ _ b5)
                have HC6 := Aside0.mk (iwithin_is _ _ _ _ b6)
                clear b4 b5 b6
                go_enter Tryz.func53, Tryz.ntmps53
                go_wp2_with (first | ((with_reducible refine gate_dst (N := 1) rfl ?_); refine box_event ?hg (N := 1) ?hd (cs := #[.int .i64 a0_0, .int .i64 3, .slice A0_2 l0_2.length c0_2, .slice A0_3 l0_3.length c0_3, .slice A0_4 l0_4.length c0_4, .int .i64 a0_5, .int .i64 a0_6, .int .i64 a0_7, .int .i64 a0_8, .slice A0_9 l0_9.length c0_9, .int .i64 a0_10, .bool a0_11]) (t := 68) ?hr ?_; (case hd => rfl); (case hg => rfl); (case hr => first | (go_simp; done) | (go_simp; rfl)); intro gb hg w2 hbox hb; have HB2 := Aside0.mk hb; have BK := Aside0.mk hbox; have k0 := (blk_cell hbox 0).trans rfl; have k1 := (blk_cell hbox 1).trans rfl; have k2 := (blk_cell hbox 2).trans rfl; have k3 := (blk_cell hbox 3).trans rfl; have k4 := (blk_cell hbox 4).trans rfl; have k5 := (blk_cell hbox 5).trans rfl; have k6 := (blk_cell hbox 6).trans rfl; have k7 := (blk_cell hbox 7).trans rfl; have k8 := (blk_cell hbox 8).trans rfl; have k9 := (blk_cell hbox 9).trans rfl; have k10 := (blk_cell hbox 10).trans rfl; have k11 := (blk_cell hbox 11).trans rfl; clear hb hbox hg) | (go_at_call 48; (with_reducible refine (HC1.out _).mono ?_); rintro e w' ⟨rfl, hd⟩; obtain ⟨n1, rfl⟩ := hd.out; clear hd) | (go_at_call 48; (with_reducible refine (HC2.out _).mono ?_); rintro e w' ⟨rfl, hd⟩; obtain ⟨n2, rfl⟩ := hd.out; clear hd) | (go_at_call 48; (with_reducible refine (HC3.out _).mono ?_); rintro e w' ⟨rfl, hd⟩; obtain ⟨n3, rfl⟩ := hd.out; clear hd) | (go_at_call 70; (with_reducible refine (HC4.out _).mono ?_); rintro e w' ⟨rfl, hd⟩; obtain ⟨n4, rfl⟩ := hd.out; clear hd) | (go_at_call 70; (with_reducible refine (HC5.out _).mono ?_); rintro e w' ⟨rfl, hd⟩; obtain ⟨n5, rfl⟩ := hd.out; clear hd) | (go_at_call 48; (with_reducible refine (HC6.out _).mono ?_); rintro e w' ⟨rfl, hd⟩; obtain ⟨n6, rfl⟩ := hd.out; clear hd))
                go_ret
                exact ⟨rfl, by repeat (first | exact HB2.out | apply pw_below_drewN)⟩
              | true =>
                cases b7 : btw a0_6 1 8 with
                | false =>
                  simp only [b4, b5, b6, b7, Bool.and_true, Bool.and_false, Bool.true_and, Bool.false_and, Bool.not_true, Bool.not_false, if_true, Bool.true_eq_false, if_false, Int.reduceEq, if_pos, reduceIte] at h
                  subst h
                  have HC4 := Aside0.mk (iside_is _ _ b4)
                  have HC5 := Aside0.mk (iside_is _ _ b5)
                  have HC6 := Aside0.mk (iwithin_is _ _ _ _ b6)
                  have HC7 := Aside0.mk (iwithin_is _ _ _ _ b7)
                  clear b4 b5 b6 b7
                  go_enter Tryz.func53, Tryz.ntmps53
                  go_wp2_with (first | ((with_reducible refine gate_dst (N := 1) rfl ?_); refine box_event ?hg (N := 1) ?hd (cs := #[.int .i64 a0_0, .int .i64 3, .slice A0_2 l0_2.length c0_2, .slice A0_3 l0_3.length c0_3, .slice A0_4 l0_4.length c0_4, .int .i64 a0_5, .int .i64 a0_6, .int .i64 a0_7, .int .i64 a0_8, .slice A0_9 l0_9.length c0_9, .int .i64 a0_10, .bool a0_11]) (t := 68) ?hr ?_; (case hd => rfl); (case hg => rfl); (case hr => first | (go_simp; done) | (go_simp; rfl)); intro gb hg w2 hbox hb; have HB2 := Aside0.mk hb; have BK := Aside0.mk hbox; have k0 := (blk_cell hbox 0).trans rfl; have k1 := (blk_cell hbox 1).trans rfl; have k2 := (blk_cell hbox 2).trans rfl; have k3 := (blk_cell hbox 3).trans rfl; have k4 := (blk_cell hbox 4).trans rfl; have k5 := (blk_cell hbox 5).trans rfl; have k6 := (blk_cell hbox 6).trans rfl; have k7 := (blk_cell hbox 7).trans rfl; have k8 := (blk_cell hbox 8).trans rfl; have k9 := (blk_cell hbox 9).trans rfl; have k10 := (blk_cell hbox 10).trans rfl; have k11 := (blk_cell hbox 11).trans rfl; clear hb hbox hg) | (go_at_call 48; (with_reducible refine (HC1.out _).mono ?_); rintro e w' ⟨rfl, hd⟩; obtain ⟨n1, rfl⟩ := hd.out; clear hd) | (go_at_call 48; (with_reducible refine (HC2.out _).mono ?_); rintro e w' ⟨rfl, hd⟩; obtain ⟨n2, rfl⟩ := hd.out; clear hd) | (go_at_call 48; (with_reducible refine (HC3.out _).mono ?_); rintro e w' ⟨rfl, hd⟩; obtain ⟨n3, rfl⟩ := hd.out; clear hd) | (go_at_call 70; (with_reducible refine (HC4.out _).mono ?_); rintro e w' ⟨rfl, hd⟩; obtain ⟨n4, rfl⟩ := hd.out; clear hd) | (go_at_call 70; (with_reducible refine (HC5.out _).mono ?_); rintro e w' ⟨rfl, hd⟩; obtain ⟨n5, rfl⟩ := hd.out; clear hd) | (go_at_call 48; (with_reducible refine (HC6.out _).mono ?_); rintro e w' ⟨rfl, hd⟩; obtain ⟨n6, rfl⟩ := hd.out; clear hd) | (go_at_call 48; (with_reducible refine (HC7.out _).mono ?_); rintro e w' ⟨rfl, hd⟩; obtain ⟨n7, rfl⟩ := hd.out; clear hd))
                  go_ret
                  exact ⟨rfl, by repeat (first | exact HB2.out | apply pw_below_drewN)⟩
                | true =>
                  cases b8 : ((l0_3.length : Int) == wrap64 (a0_5 * a0_6)) with
                  | false =>
                    simp only [b4, b5, b6, b7, b8, Bool.and_true, Bool.and_false, Bool.true_and, Bool.false_and, Bool.not_true, Bool.not_false, if_true, Bool.true_eq_false, if_false, Int.reduceEq, if_pos, reduceIte] at h
                    subst h
                    have HC4 := Aside0.mk (iside_is _ _ b4)
                    have HC5 := Aside0.mk (iside_is _ _ b5)
                    have HC6 := Aside0.mk (iwithin_is _ _ _ _ b6)
                    have HC7 := Aside0.mk (iwithin_is _ _ _ _ b7)
                    clear b4 b5 b6 b7
                    go_enter Tryz.func53, Tryz.ntmps53
                    go_wp2_with (first | ((with_reducible refine gate_dst (N := 1) rfl ?_); refine box_event ?hg (N := 1) ?hd (cs := #[.int .i64 a0_0, .int .i64 3, .slice A0_2 l0_2.length c0_2, .slice A0_3 l0_3.length c0_3, .slice A0_4 l0_4.length c0_4, .int .i64 a0_5, .int .i64 a0_6, .int .i64 a0_7, .int .i64 a0_8, .slice A0_9 l0_9.length c0_9, .int .i64 a0_10, .bool a0_11]) (t := 68) ?hr ?_; (case hd => rfl); (case hg => rfl); (case hr => first | (go_simp; done) | (go_simp; rfl)); intro gb hg w2 hbox hb; have HB2 := Aside0.mk hb; have BK := Aside0.mk hbox; have k0 := (blk_cell hbox 0).trans rfl; have k1 := (blk_cell hbox 1).trans rfl; have k2 := (blk_cell hbox 2).trans rfl; have k3 := (blk_cell hbox 3).trans rfl; have k4 := (blk_cell hbox 4).trans rfl; have k5 := (blk_cell hbox 5).trans rfl; have k6 := (blk_cell hbox 6).trans rfl; have k7 := (blk_cell hbox 7).trans rfl; have k8 := (blk_cell hbox 8).trans rfl; have k9 := (blk_cell hbox 9).trans rfl; have k10 := (blk_cell hbox 10).trans rfl; have k11 := (blk_cell hbox 11).trans rfl; clear hb hbox hg) | (go_at_call 48; (with_reducible refine (HC1.out _).mono ?_); rintro e w' ⟨rfl, hd⟩; obtain ⟨n1, rfl⟩ := hd.out; clear hd) | (go_at_call 48; (with_reducible refine (HC2.out _).mono ?_); rintro e w' ⟨rfl, hd⟩; obtain ⟨n2, rfl⟩ := hd.out; clear hd) | (go_at_call 48; (with_reducible refine (HC3.out _).mono ?_); rintro e w' ⟨rfl, hd⟩; obtain ⟨n3, rfl⟩ := hd.out; clear hd) | (go_at_call 70; (with_reducible refine (HC4.out _).mono ?_); rintro e w' ⟨rfl, hd⟩; obtain ⟨n4, rfl⟩ := hd.out; clear hd) | (go_at_call 70; (with_reducible refine (HC5.out _).mono ?_); rintro e w' ⟨rfl, hd⟩; obtain ⟨n5, rfl⟩ := hd.out; clear hd) | (go_at_call 48; (with_reducible refine (HC6.out _).mono ?_); rintro e w' ⟨rfl, hd⟩; obtain ⟨n6, rfl⟩ := hd.out; clear hd) | (go_at_call 48; (with_reducible refine (HC7.out _).mono ?_); rintro e w' ⟨rfl, hd⟩; obtain ⟨n7, rfl⟩ := hd.out; clear hd))
                    go_ret
                    exact ⟨rfl, by repeat (first | exact HB2.out | apply pw_below_drewN)⟩
                  | true =>
                    simp only [b4, b5, b6, b7, b8, Bool.and_true, Bool.and_false, Bool.true_and, Bool.false_and, Bool.not_true, Bool.not_false, if_true, Bool.true_eq_false, if_false, Int.reduceEq, if_pos, reduceIte] at h
                    subst h
                    have HC4 := Aside0.mk (iside_is _ _ b4)
                    have HC5 := Aside0.mk (iside_is _ _ b5)
                    have HC6 := Aside0.mk (iwithin_is _ _ _ _ b6)
                    have HC7 := Aside0.mk (iwithin_is _ _ _ _ b7)
                    clear b4 b5 b6 b7
                    go_enter Tryz.func53, Tryz.ntmps53
                    go_wp2_with (first | ((with_reducible refine gate_dst (N := 1) rfl ?_); refine box_event ?hg (N := 1) ?hd (cs := #[.int .i64 a0_0, .int .i64 3, .slice A0_2 l0_2.length c0_2, .slice A0_3 l0_3.length c0_3, .slice A0_4 l0_4.length c0_4, .int .i64 a0_5, .int .i64 a0_6, .int .i64 a0_7, .int .i64 a0_8, .slice A0_9 l0_9.length c0_9, .int .i64 a0_10, .bool a0_11]) (t := 68) ?hr ?_; (case hd => rfl); (case hg => rfl); (case hr => first | (go_simp; done) | (go_simp; rfl)); intro gb hg w2 hbox hb; have HB2 := Aside0.mk hb; have BK := Aside0.mk hbox; have k0 := (blk_cell hbox 0).trans rfl; have k1 := (blk_cell hbox 1).trans rfl; have k2 := (blk_cell hbox 2).trans rfl; have k3 := (blk_cell hbox 3).trans rfl; have k4 := (blk_cell hbox 4).trans rfl; have k5 := (blk_cell hbox 5).trans rfl; have k6 := (blk_cell hbox 6).trans rfl; have k7 := (blk_cell hbox 7).trans rfl; have k8 := (blk_cell hbox 8).trans rfl; have k9 := (blk_cell hbox 9).trans rfl; have k10 := (blk_cell hbox 10).trans rfl; have k11 := (blk_cell hbox 11).trans rfl; clear hb hbox hg) | (go_at_call 48; (with_reducible refine (HC1.out _).mono ?_); rintro e w' ⟨rfl, hd⟩; obtain ⟨n1, rfl⟩ := hd.out; clear hd) | (go_at_call 48; (with_reducible refine (HC2.out _).mono ?_); rintro e w' ⟨rfl, hd⟩; obtain ⟨n2, rfl⟩ := hd.out; clear hd) | (go_at_call 48; (with_reducible refine (HC3.out _).mono ?_); rintro e w' ⟨rfl, hd⟩; obtain ⟨n3, rfl⟩ := hd.out; clear hd) | (go_at_call 70; (with_reducible refine (HC4.out _).mono ?_); rintro e w' ⟨rfl, hd⟩; obtain ⟨n4, rfl⟩ := hd.out; clear hd) | (go_at_call 70; (with_reducible refine (HC5.out _).mono ?_); rintro e w' ⟨rfl, hd⟩; obtain ⟨n5, rfl⟩ := hd.out; clear hd) | (go_at_call 48; (with_reducible refine (HC6.out _).mono ?_); rintro e w' ⟨rfl, hd⟩; obtain ⟨n6, rfl⟩ := hd.out; clear hd) | (go_at_call 48; (with_reducible refine (HC7.out _).mono ?_); rintro e w' ⟨rfl, hd⟩; obtain ⟨n7, rfl⟩ := hd.out; clear hd))
                    go_ret
                    exact ⟨rfl, by repeat (first | exact HB2.out | apply pw_below_drewN)⟩
end Go.Proofs.YtphkionjjhhhlaaGreat.Q
end
section
namespace Go.Proofs.YtphkionjjhhhlaaGreat.Q
open Go.RowKit Go.Proofs.YtphkionjjhhhlaaGreatW.PrintWords Go.Proofs.YtphkionjjhhhlaaGreatW.PrintLast Go.Proofs.YtphkionjjhhhlaaGreatW.PrintMore
set_option maxHeartbeats 8000000 in
set_option maxRecDepth 100000 in
theorem IndexFunc_item.calls (g : FuncId) (caps : Array Value) (p : S68 → Bool) (A0 : Option Addr) (c0 : Nat) (l0 : List S68) (w : World) (hr0 : Kd.C k68 w A0 l0.length l0)
    (hp : PredIn Tryz.prog g caps (fun W (x : S68) v => ∃ cs : List Value, v = .agg cs.toArray ∧ k68.K W x cs) p w) :
    Calls Tryz.prog 111 #[.slice A0 l0.length c0, .func (.func g) #[] caps] w fun e w' => e = .returned (.int .i64 (idxOf p l0)) ∧ Below w.heap.size w w' := by
  have HR0 := Aside0.mk hr0
  have hlen := Aside0.mk hr0.2.1
  clear hr0
  have HB := Aside0.mk (Below.refl w.heap.size w)
  have HP := Aside0.mk hp
  have hen := hp.enters
  clear hp
  have HI : Aside0 (0 ≤ (0 : Int) ∧ (0 : Int) + (l0.length : Nat) = l0.length ∧ idxAux p (l0.drop (0 : Int).toNat) (0 : Int).toNat = idxOf p l0) := ⟨by omega, by omega, rfl⟩
  go_enter Tryz.func111, Tryz.ntmps111
  go_wp2
  go_loopg [8] l0.length (fun kq v8 w' => ∃ i : Int, v8 = .int .i64 i ∧ Aside0 (0 ≤ i ∧ i + kq = l0.length ∧ idxAux p (l0.drop i.toNat) i.toNat = idxOf p l0) ∧ Aside0 (Below w.heap.size w w'))
  case atStart => exact ⟨0, rfl, HI, HB⟩
  case round =>
    clear HI HB
    obtain ⟨i, rfl, HI, HB⟩ := hrel
    cases gk with
    | zero =>
      have hge : decide (i < (l0.length : Int)) = false := by have := HI.out; simp; omega
      go_wp2
      go_ret
      exact ⟨by rw [← HI.out.2.2, idxOf_end p l0 i.toNat (by have := HI.out; omega)]; rfl, HB.out⟩
    | succ k1 =>
      have h0 : 0 ≤ i := by have := HI.out; omega
      have h1 : i < (l0.length : Int) := by have := HI.out; omega
      have hge : decide (i < (l0.length : Int)) = true := decide_eq_true h1
      have hg0 : decide (0 ≤ i) = true := decide_eq_true h0
      obtain ⟨ad, A2, c2, A3, c3, A4, c4, A9, c9, e0, hx0, hx1, hx2, hx3, hx4, hx5, hx6, hx7, hx8, hx9, hx10, hx11, hl2, hi2, hl3, hi3, hl4, hi4, hl9, hi9⟩ := at_T68 HR0.out i h0 h1
      cases e0
      replace hx0 := (HB.out.cell (World.block_lt_of_cell? w _ hx0)).trans hx0
      replace hx1 := (HB.out.cell (World.block_lt_of_cell? w _ hx1)).trans hx1
      replace hx2 := (HB.out.cell (World.block_lt_of_cell? w _ hx2)).trans hx2
      replace hx3 := (HB.out.cell (World.block_lt_of_cell? w _ hx3)).trans hx3
      replace hx4 := (HB.out.cell (World.block_lt_of_cell? w _ hx4)).trans hx4
      replace hx5 := (HB.out.cell (World.block_lt_of_cell? w _ hx5)).trans hx5
      replace hx6 := (HB.out.cell (World.block_lt_of_cell? w _ hx6)).trans hx6
      replace hx7 := (HB.out.cell (World.block_lt_of_cell? w _ hx7)).trans hx7
      replace hx8 := (HB.out.cell (World.block_lt_of_cell? w _ hx8)).trans hx8
      replace hx9 := (HB.out.cell (World.block_lt_of_cell? w _ hx9)).trans hx9
      replace hx10 := (HB.out.cell (World.block_lt_of_cell? w _ hx10)).trans hx10
      replace hx11 := (HB.out.cell (World.block_lt_of_cell? w _ hx11)).trans hx11
      have hx : Aside0 (l0[i.toNat]? = some (rd_T68 l0 i)) := ⟨by
        have hl : i.toNat < l0.length := by omega
        simp [rd_T68, List.getElem?_eq_getElem hl, List.getD_eq_getElem?_getD]⟩
      have HC := Aside0.mk (HP.out.tells wr (rd_T68 l0 i) _ HB.out ⟨_, rfl, k68_mk wr (rd_T68 l0 i) hl2 (Kd.C_below hi2 HB.out) hl3 (Kd.C_below hi3 HB.out) hl4 (Kd.C_below hi4 HB.out) hl9 (Kd.C_below hi9 HB.out)⟩)
      clear hl2 hi2 hl3 hi3 hl4 hi4 hl9 hi9
      generalize rd_T68 l0 i = x at *
      replace h0 := eq_true h0
      replace h1 := eq_true h1
      cases hpx : p x with
      | true =>
        have HPX := Aside0.mk hpx
        rw [hpx] at HC
        clear hpx
        go_wp2_with (refine HC.out.mono ?_; rintro e w' ⟨rfl, hb⟩; have HB2 := Aside0.mk hb; clear hb)
        go_ret
        have h2 := HI.out.2.2
        exact ⟨by rw [← h2, idxOf_step p l0 i.toNat x hx.out, if_pos HPX.out, Int.toNat_of_nonneg HI.out.1]; rfl, (pw_below_trans HB.out HB2.out)⟩
      | false =>
        have HPX := Aside0.mk hpx
        rw [hpx] at HC
        clear hpx
        go_wp2_with (refine HC.out.mono ?_; rintro e w' ⟨rfl, hb⟩; have HB2 := Aside0.mk hb; clear hb)
        go_roundg k1
        case measure => omega
        case rel =>
          have hw : wrap64 (i + 1) = i + 1 := by have := HI.out; have := hlen.out; unfold wrap64; omega
          have h2 := HI.out.2.2
          refine ⟨i + 1, congrArg _ hw, ⟨by have := HI.out; omega, by have := HI.out; omega, ?_⟩, ⟨pw_below_trans HB.out HB2.out⟩⟩
          rw [← h2, idxOf_step p l0 i.toNat x hx.out, if_neg (by simp [HPX.out]), show (i + 1).toNat = i.toNat + 1 from by have := HI.out; omega]
end Go.Proofs.YtphkionjjhhhlaaGreat.Q
end
section
namespace Go.Proofs.YtphkionjjhhhlaaGreat.Q
open Go.RowKit Go.Proofs.YtphkionjjhhhlaaGreatW.PrintWords Go.Proofs.YtphkionjjhhhlaaGreatW.PrintLast Go.Proofs.YtphkionjjhhhlaaGreatW.PrintMore
theorem enters_112 : ∀ (args : Array Value) (W : World), (callFunc 112 args).run Tryz.prog W = .ok (.enter 112 args) W := enters_of Tryz.func112 (by kernel_rfl) rfl
def item_find.f (l0 : List S68) (a1 : Int) : Option Int := some (idxOf (fun x => x.f0 == a1) l0)
set_option maxHeartbeats 8000000 in
set_option maxRecDepth 100000 in
theorem pred_112 (id : Int) (gb : Nat) (w : World) (hb : w.heap[gb]? = some (.cells #[.int .i64 id] 3 (0, 0))) : PredIn Tryz.prog 112 #[.pointer (some ⟨gb, 0, none⟩)] (fun W (x : S68) v => ∃ cs : List Value, v = .agg cs.toArray ∧ k68.K W x cs) (fun x => x.f0 == id) w := ⟨enters_112, fun W x v hW he => by
  obtain ⟨cs, rfl, hK⟩ := he
  obtain ⟨A2, c2, A3, c3, A4, c4, A9, c9, rfl, _⟩ := k68_open hK
  have hu68 := Tryz.underlying68
  have BK := (hW.block gb (blk_lt hb)).trans hb
  have k0 := (blk_cell BK 0).trans rfl
  have k1 : ∀ o : Obj, (W.alloc o).cell? ⟨gb, 0, none⟩ = some (.int .i64 id) := fun o => (World.cell?_alloc_lt W o _ (blk_lt BK)).trans k0
  clear k0
  clear hb hK BK hW
  simp only [List.append_toArray, List.cons_append, List.nil_append]
  go_enter Tryz.func112, Tryz.ntmps112
  go_wp2
  go_ret
  exact ⟨rfl, by repeat (first | exact Below.refl _ _ | apply below_alloc)⟩⟩
set_option maxHeartbeats 8000000 in
set_option maxRecDepth 100000 in
theorem item_find.calls (A0 : Option Addr) (c0 : Nat) (l0 : List S68) (a1 : Int) (r : Int) (w : World) (hr0 : Kd.C k68 w A0 l0.length l0) (hc0 : l0.length ≤ c0) (h : item_find.f l0 a1 = some r) :
    Calls Tryz.prog 55 #[.slice A0 l0.length c0, .int .i64 a1] w fun e w' => e = .returned (.int .i64 r) ∧ Below w.heap.size w w' := by
  have HR := Aside0.mk hr0
  clear hr0 hc0
  injection h with h
  subst h
  have hmf := makeFunc_run
  go_enter Tryz.func55, Tryz.ntmps55
  go_wp2_with (go_at_call 111; (with_reducible refine (IndexFunc_item.calls 112 #[.pointer (some ⟨w.heap.size, 0, none⟩)] (fun x => x.f0 == a1) A0 c0 l0 _ ?hC ?hP).mono ?_); (case hC => exact Kd.C_alloc HR.out _); (case hP => exact pred_112 a1 w.heap.size _ (heap_alloc_new w _)); rintro e w' ⟨rfl, hb⟩; have HBc := Aside0.mk (pw_below_trans (below_alloc (Below.refl _ _) _) hb); clear hb)
  go_ret
  exact ⟨rfl, HBc.out⟩
end Go.Proofs.YtphkionjjhhhlaaGreat.Q
end
section
namespace Go.Proofs.YtphkionjjhhhlaaGreat.Q
open Go.RowKit Go.Proofs.YtphkionjjhhhlaaGreatW.PrintWords Go.Proofs.YtphkionjjhhhlaaGreatW.PrintLast Go.Proofs.YtphkionjjhhhlaaGreatW.PrintMore
theorem enters_114 : ∀ (args : Array Value) (W : World), (callFunc 114 args).run Tryz.prog W = .ok (.enter 114 args) W := enters_of Tryz.func114 (by kernel_rfl) rfl
def findI (l : List S68) (id : Int) : Int := idxOf (fun x => x.f0 == id) l
def goL (l : List S68) (i : Int) (go : Int → List Bool → Option (Bool × List Bool)) : List Int → List Bool → Option (Bool × List Bool)
  | [], seen => some (false, seen)
  | id :: ids, seen =>
    if findI l id = i then some (true, seen)
    else if 0 ≤ findI l id ∧ findI l id < (seen.length : Int) then
      if rdOf false seen (findI l id) = true then goL l i go ids seen
      else (go (findI l id) (seen.set (findI l id).toNat true)).bind fun r => if r.1 = true then some r else goL l i go ids r.2
    else none
def walkN (l : List S68) (i : Int) : Nat → Int → List Bool → Option (Bool × List Bool)
  | 0, _, _ => none
  | f + 1, k, seen => if 0 ≤ k ∧ k < (l.length : Int) ∧ seen.length = l.length then goL l i (walkN l i f) (rd_T68 l k).f3 seen else none
structure LoopsW (w0 w : World) (g1 g2 g3 g4 gs : Nat) (A0 : Option Addr) (c0 cs : Nat) (l : List S68) (i : Int) (seen : List Bool) : Prop where
  b1 : w.heap[g1]? = some (.cells #[.slice A0 l.length c0] 35 (0, 0))
  b2 : w.heap[g2]? = some (.cells #[.int .i64 i] 3 (0, 0))
  b3 : w.heap[g3]? = some (.cells #[.slice (some ⟨gs, 0, none⟩) l.length cs] 93 (0, 0))
  b4 : w.heap[g4]? = some (.cells #[.func (.func 114) #[] #[.pointer (some ⟨g1, 0, none⟩), .pointer (some ⟨g2, 0, none⟩), .pointer (some ⟨g3, 0, none⟩), .pointer (some ⟨g4, 0, none⟩)]] 92 (0, 0))
  row : Kd.R Kd.bool 4 w w0.heap.size (fun _ => True) (.slice (some ⟨gs, 0, none⟩) l.length cs) seen
  len : seen.length = l.length
  below : Below w0.heap.size w0 w
theorem LoopsW.keep {w0 w w1 : World} {g1 g2 g3 g4 gs : Nat} {A0 : Option Addr} {c0 cs : Nat} {l : List S68} {i : Int} {seen : List Bool} (h : LoopsW w0 w g1 g2 g3 g4 gs A0 c0 cs l i seen) (hb : Below w.heap.size w w1) : LoopsW w0 w1 g1 g2 g3 g4 gs A0 c0 cs l i seen :=
  ⟨blk_below h.b1 hb, blk_below h.b2 hb, blk_below h.b3 hb, blk_below h.b4 hb, Kd.R_below h.row hb, h.len, pw_below_trans h.below hb⟩
theorem LoopsW.gs_ge {w0 w : World} {g1 g2 g3 g4 gs : Nat} {A0 : Option Addr} {c0 cs : Nat} {l : List S68} {i : Int} {seen : List Bool} (h : LoopsW w0 w g1 g2 g3 g4 gs A0 c0 cs l i seen) : w0.heap.size ≤ gs := by
  obtain ⟨inner, ho⟩ := Kd.R_own h.row
  exact own_base ho gs rfl
theorem LoopsW.see {w0 w : World} {g1 g2 g3 g4 gs : Nat} {A0 : Option Addr} {c0 cs : Nat} {l : List S68} {i : Int} {seen : List Bool} (h : LoopsW w0 w g1 g2 g3 g4 gs A0 c0 cs l i seen) (n : Int) : LoopsW w0 (w.setCell ⟨gs, n.toNat, none⟩ (.bool true)) g1 g2 g3 g4 gs A0 c0 cs l i (seen.set n.toNat true) := by
  have hp := Kd.R_putg h.row n true
  have ne : ∀ {g t : Nat} {cells : Array Value}, w.heap[g]? = some (.cells cells t (0, 0)) → 4 ≠ t → g ≠ gs := fun hb ht he => Kd.R_ne h.row hb ht (by simp [Value.ownBlock, he])
  exact ⟨blk_far h.b1 (ne h.b1 (by decide)) _, blk_far h.b2 (ne h.b2 (by decide)) _, blk_far h.b3 (ne h.b3 (by decide)) _, blk_far h.b4 (ne h.b4 (by decide)) _, hp.1, by rw [List.length_set]; exact h.len,
    h.below.grown hp.2 h.below.size (fun k hk => by have := h.gs_ge; injection hk with hk; omega)⟩
theorem goL_drop (l : List S68) (i : Int) (go : Int → List Bool → Option (Bool × List Bool)) (ids : List Int) (j : Nat) (id : Int) (seen : List Bool) (h : ids[j]? = some id) :
    goL l i go (ids.drop j) seen = if findI l id = i then some (true, seen)
    else if 0 ≤ findI l id ∧ findI l id < (seen.length : Int) then
      if rdOf false seen (findI l id) = true then goL l i go (ids.drop (j + 1)) seen
      else (go (findI l id) (seen.set (findI l id).toNat true)).bind fun r => if r.1 = true then some r else goL l i go (ids.drop (j + 1)) r.2
    else none := by
  obtain ⟨hl, he⟩ := List.getElem?_eq_some_iff.1 h
  rw [List.drop_eq_getElem_cons hl, he]
  rfl
set_option maxHeartbeats 16000000 in
set_option maxRecDepth 100000 in
theorem walk_any (l : List S68) (i : Int) (w0 : World) (A0 : Option Addr) (c0 : Nat) (hr0 : Kd.C k68 w0 A0 l.length l) (hc0 : l.length ≤ c0) (f : Nat) : ∀ (k : Int) (seen : List Bool) (r : Bool × List Bool) (w : World) (g1 g2 g3 g4 gs cs : Nat),
    LoopsW w0 w g1 g2 g3 g4 gs A0 c0 cs l i seen → walkN l i f k seen = some r →
    Calls Tryz.prog 114 #[.int .i64 k, .pointer (some ⟨g1, 0, none⟩), .pointer (some ⟨g2, 0, none⟩), .pointer (some ⟨g3, 0, none⟩), .pointer (some ⟨g4, 0, none⟩)] w
      fun e w' => e = .returned (.bool r.1) ∧ LoopsW w0 w' g1 g2 g3 g4 gs A0 c0 cs l i r.2 := by
  induction f with
  | zero => intro k seen r w g1 g2 g3 g4 gs cs _ h; cases h
  | succ f ih =>
    intro k seen r w g1 g2 g3 g4 gs cs hL h
    simp only [walkN] at h
    split at h
    case isFalse => cases h
    case isTrue hk =>
    obtain ⟨hk0, hk1, _⟩ := hk
    have HL := Aside0.mk hL
    have HR := Aside0.mk hr0
    have IH := Aside0.mk ih
    have HC0 := Aside0.mk hc0
    clear ih hr0 hL hc0
    obtain ⟨ad, A2, c2, A3, c3, A4, c4, A9, c9, e0, _, _, _, hx3, _, _, _, _, _, _, _, _, _, _, hl3, hi3, _⟩ := at_T68 HR.out k hk0 hk1
    cases e0
    replace hx3 := (HL.out.below.cell (World.block_lt_of_cell? w0 _ hx3)).trans hx3
    have HX := Aside0.mk hi3
    clear hl3 hi3
    have H := Aside0.mk h
    clear h
    generalize (rd_T68 l k).f3 = ids at *
    have k1 := (blk_cell HL.out.b1 0).trans rfl
    have hk0b : decide (0 ≤ k) = true := decide_eq_true hk0
    have hk1b : decide (k < (l.length : Int)) = true := decide_eq_true hk1
    have hen := enters_114
    replace hk0 := eq_true hk0
    replace hk1 := eq_true hk1
    go_enter Tryz.func114, Tryz.ntmps114
    go_wp2
    have HI : Aside0 (0 ≤ (0 : Int) ∧ (0 : Int) + (ids.length : Nat) = ids.length ∧ goL l i (walkN l i f) (ids.drop (0 : Int).toNat) seen = some r) := ⟨by omega, by omega, H.out⟩
    have hlen := Aside0.mk HX.out.2.1
    clear k1 hx3
    go_loopg [16] ids.length (fun kq v16 w' => ∃ (j : Int) (sn : List Bool), v16 = .int .i64 j ∧ Aside0 (0 ≤ j ∧ j + kq = ids.length ∧ goL l i (walkN l i f) (ids.drop j.toNat) sn = some r) ∧ Aside0 (LoopsW w0 w' g1 g2 g3 g4 gs (some ad) c0 cs l i sn))
    case atStart => exact ⟨0, seen, rfl, HI, HL⟩
    case round =>
      clear HI HL H
      obtain ⟨j, sn, rfl, HI, HL⟩ := hrel
      cases gk with
      | zero =>
        have hge : decide (j < (ids.length : Int)) = false := by have := HI.out; simp; omega
        have hr : r = (false, sn) := by
          have := HI.out.2.2
          rw [List.drop_eq_nil_of_le (by have := HI.out; omega)] at this
          exact (Option.some.inj this).symm
        subst hr
        go_wp2
        go_ret
        exact ⟨rfl, HL.out⟩
      | succ kq1 =>
        have h0 : 0 ≤ j := by have := HI.out; omega
        have h1 : j < (ids.length : Int) := by have := HI.out; omega
        have hge : decide (j < (ids.length : Int)) = true := decide_eq_true h1
        have hg0 : decide (0 ≤ j) = true := decide_eq_true h0
        obtain ⟨ad3, e3, hc⟩ := ReadsInt.at_ (Kd.reads_of_C (d := 0) HX.out : ReadsInt w0 .i64 A3 ids.length ids) j h0 h1
        cases e3
        replace hc := (HL.out.below.cell (World.block_lt_of_cell? w0 _ hc)).trans hc
        have hx : ids[j.toNat]? = some (rd ids j) := by
          have hl : j.toNat < ids.length := by omega
          simp [rd, List.getElem?_eq_getElem hl, List.getD_eq_getElem?_getD]
        have hst := HI.out.2.2
        rw [goL_drop l i _ ids j.toNat (rd ids j) sn hx] at hst
        clear hx
        generalize rd ids j = id at *
        have hw : Aside0 (wrap64 (j + 1) = j + 1 ∧ (j + 1).toNat = j.toNat + 1) := ⟨by have := HI.out; have := hlen.out; unfold wrap64; omega, by omega⟩
        replace h0 := eq_true h0
        replace h1 := eq_true h1
        have k1 := (blk_cell HL.out.b1 0).trans rfl
        have HF := Aside0.mk (item_find.calls (some ad) c0 l id (findI l id) wr (Kd.C_below HR.out HL.out.below) HC0.out rfl)
        generalize hn : findI l id = n at *
        clear hn
        by_cases hni : n = i
        · rw [if_pos hni] at hst
          obtain rfl := Option.some.inj hst
          subst hni
          have k2 := (blk_cell HL.out.b2 0).trans rfl
          have k2' : ∀ W : World, Below wr.heap.size wr W → W.cell? ⟨g2, 0, none⟩ = some (.int .i64 n) := fun W hb => (blk_cell (blk_below HL.out.b2 hb) 0).trans rfl
          have K2 := Aside0.mk k2'
          clear k2' hst
          have q1 : (n == n) = true := by simp
          go_wp2_with (go_at_call 55; (with_reducible refine HF.out.mono ?_); rintro e w' ⟨rfl, hb⟩; have HL2 := Aside0.mk (HL.out.keep hb); have k2 := (blk_cell HL2.out.b2 0).trans rfl; clear hb)
          go_ret
          exact ⟨rfl, HL2.out⟩
        · rw [if_neg hni] at hst
          split at hst
          case isFalse => cases hst
          case isTrue hb =>
          have q1 : (n == i) = false := by simp [hni]
          have q1' : decide (n = i) = false := by simp [hni]
          clear hni
          obtain ⟨hb0, hb1⟩ := hb
          rw [HL.out.len] at hb1
          have NB : Aside0 (0 ≤ n ∧ n < (l.length : Int)) := ⟨hb0, hb1⟩
          have hb0b : decide (0 ≤ n) = true := decide_eq_true hb0
          have hb1b : decide (n < (l.length : Int)) = true := decide_eq_true hb1
          replace hb0 := eq_true hb0
          replace hb1 := eq_true hb1
          by_cases hs : rdOf false sn n = true
          · rw [if_pos hs] at hst
            have SE := Aside0.mk hs
            have ST := Aside0.mk hst
            clear hs hst
            go_wp2_with (go_at_call 55; (with_reducible refine HF.out.mono ?_); rintro e w' ⟨rfl, hb⟩; have HL2 := Aside0.mk (HL.out.keep hb); have k2 := (blk_cell HL2.out.b2 0).trans rfl; have k3 := (blk_cell HL2.out.b3 0).trans rfl; obtain ⟨kc, kf⟩ := Kd.R_celln false HL2.out.row n NB.out.1 NB.out.2; simp only [SE.out] at kc; clear hb)
            go_roundg kq1
            case measure => omega
            case rel => exact ⟨j + 1, sn, congrArg _ hw.out.1, ⟨by have := HI.out; omega, by have := HI.out; omega, by rw [hw.out.2]; exact ST.out⟩, HL2⟩
          · rw [if_neg hs] at hst
            have SE : Aside0 (rdOf false sn n = false) := ⟨by simpa using hs⟩
            clear hs
            obtain ⟨r1, hr1, hst⟩ := Option.bind_eq_some_iff.1 hst
            have W1 := Aside0.mk hr1
            have ST := Aside0.mk hst
            clear hr1 hst
            cases hr1b : r1.1 with
            | true =>
              have R1 := Aside0.mk hr1b
              clear hr1b
              go_wp2_with (first | (go_at_call 55; (with_reducible refine HF.out.mono ?_); rintro e w' ⟨rfl, hb⟩; have HL2 := Aside0.mk (HL.out.keep hb); have k2 := (blk_cell HL2.out.b2 0).trans rfl; have k3 := (blk_cell HL2.out.b3 0).trans rfl; obtain ⟨kc, kf⟩ := Kd.R_celln false HL2.out.row n NB.out.1 NB.out.2; simp only [SE.out] at kc; have k4 := (blk_cell (HL2.out.see n).b4 0).trans rfl; have HL3 := Aside0.mk (HL2.out.see n); clear hb) | (go_at_call 114; (with_reducible refine (IH.out n _ r1 _ g1 g2 g3 g4 gs cs HL3.out W1.out).mono ?_); rintro e w4 ⟨rfl, hL4⟩; have HL4 := Aside0.mk hL4; clear hL4; rw [R1.out]))
              go_ret
              have hr := ST.out
              rw [if_pos R1.out] at hr
              obtain rfl := Option.some.inj hr
              exact ⟨by rw [R1.out]; rfl, HL4.out⟩
            | false =>
              have R1 := Aside0.mk hr1b
              clear hr1b
              go_wp2_with (first | (go_at_call 55; (with_reducible refine HF.out.mono ?_); rintro e w' ⟨rfl, hb⟩; have HL2 := Aside0.mk (HL.out.keep hb); have k2 := (blk_cell HL2.out.b2 0).trans rfl; have k3 := (blk_cell HL2.out.b3 0).trans rfl; obtain ⟨kc, kf⟩ := Kd.R_celln false HL2.out.row n NB.out.1 NB.out.2; simp only [SE.out] at kc; have k4 := (blk_cell (HL2.out.see n).b4 0).trans rfl; have HL3 := Aside0.mk (HL2.out.see n); clear hb) | (go_at_call 114; (with_reducible refine (IH.out n _ r1 _ g1 g2 g3 g4 gs cs HL3.out W1.out).mono ?_); rintro e w4 ⟨rfl, hL4⟩; have HL4 := Aside0.mk hL4; clear hL4; rw [R1.out]))
              go_roundg kq1
              case measure => omega
              case rel =>
                have hr := ST.out
                rw [if_neg (by simp [R1.out])] at hr
                exact ⟨j + 1, r1.2, congrArg _ hw.out.1, ⟨by have := HI.out; omega, by have := HI.out; omega, by rw [hw.out.2]; exact hr⟩, HL4⟩
end Go.Proofs.YtphkionjjhhhlaaGreat.Q
end
section
namespace Go.Proofs.YtphkionjjhhhlaaGreat.Q
open Go.RowKit Go.Proofs.YtphkionjjhhhlaaGreatW.PrintWords Go.Proofs.YtphkionjjhhhlaaGreatW.PrintLast Go.Proofs.YtphkionjjhhhlaaGreatW.PrintMore
def item_loops.f (l0 : List S68) (a1 : Int) : Option Bool :=
  if l0.length ≤ 1000000 ∧ 0 ≤ a1 ∧ a1 < (l0.length : Int) then (walkN l0 a1 (l0.length + 1) a1 (List.replicate l0.length false)).map (·.1) else none
set_option maxHeartbeats 16000000 in
set_option maxRecDepth 100000 in
theorem item_loops.calls (A0 : Option Addr) (c0 : Nat) (l0 : List S68) (a1 : Int) (r : Bool) (w : World) (hr0 : Kd.C k68 w A0 l0.length l0) (hc0 : l0.length ≤ c0) (h : item_loops.f l0 a1 = some r) :
    Calls Tryz.prog 58 #[.slice A0 l0.length c0, .int .i64 a1] w fun e w' => e = .returned (.bool r) ∧ Below w.heap.size w w' := by
  unfold item_loops.f at h
  split at h
  case isFalse => cases h
  case isTrue hk =>
  obtain ⟨r1, hw1, rfl⟩ := Option.map_eq_some_iff.1 h
  clear h
  have HK := Aside0.mk hk
  have HR := Aside0.mk hr0
  have HC0 := Aside0.mk hc0
  have HW := Aside0.mk hw1
  clear hw1 hk hr0 hc0
  have hmf := makeFunc_run
  have hen := enters_114
  go_enter Tryz.func58, Tryz.ntmps58
  go_wp2_with (first | ((with_reducible refine gate_dst (N := 9) rfl ?_); refine Kd.R_make Kd.bool _ 4 rfl (N := 9) rfl 93 _ _ rfl (l0.length : Int) rfl rfl Tryz.underlying93 (.bool false) 1 info4 rfl (by decide) (by omega) false (ok := fun _ => True) (okp := fun _ => True) rfl (fun _ hk => hk) trivial (by omega) (by have := HK.out.1; omega) (Below.refl _ _) (Nat.le_refl _) ?_; intro v1 w1 hv1 hb1 _ _; simp only [Int.toNat_natCast] at hv1; obtain ⟨gs, cs, rfl, _, _, _⟩ := Kd.R_form hv1 (by have := HK.out; simp; omega); simp only [List.length_replicate] at hv1; have BB1 := blk_below (blk_alloc (heap_alloc_new w (.cells #[.slice A0 l0.length c0] 35)) _) hb1; have BB2 := blk_below (heap_alloc_new (w.alloc (.cells #[.slice A0 l0.length c0] 35)) (.cells #[.int .i64 a1] 3)) hb1; simp only [World.size_alloc] at BB2; have k3 : ∀ o1 o2 : Obj, ((w1.alloc o1).alloc o2).cell? ⟨w.heap.size + 1, 0, none⟩ = some (.int .i64 a1) := fun o1 o2 => (blk_cell (blk_alloc (blk_alloc BB2 o1) o2) 0).trans rfl; have B1 := Aside0.mk BB1; have B2 := Aside0.mk BB2; clear BB1 BB2; have HV1 := Aside0.mk hv1; have BT : Aside0 (∀ o1 o2 : Obj, Below w.heap.size w ((w1.alloc o1).alloc o2)) := ⟨fun o1 o2 => below_alloc (below_alloc (pw_below_trans (below_alloc (below_alloc (Below.refl _ _) _) _) hb1) _) _⟩; clear hv1) | (go_at_call 114; (with_reducible refine (walk_any l0 a1 w A0 c0 HR.out HC0.out _ a1 _ r1 _ _ _ _ _ gs cs ?hL HW.out).mono ?_); (case hL => exact ⟨blk_alloc (blk_alloc B1.out _) _, blk_alloc (blk_alloc B2.out _) _, blk_alloc (heap_alloc_new w1 _) _, by have := heap_alloc_new (w1.alloc (.cells #[.slice (some ⟨gs, 0, none⟩) l0.length cs] 93)) (.cells #[.func (.func 114) #[] #[.pointer (some ⟨w.heap.size, 0, none⟩), .pointer (some ⟨w.heap.size + 1, 0, none⟩), .pointer (some ⟨w1.heap.size, 0, none⟩), .pointer (some ⟨w1.heap.size + 1, 0, none⟩)]] 92); rw [World.size_alloc] at this; exact this, Kd.R_lower (Kd.R_alloc (Kd.R_alloc HV1.out _) _) (by simp [World.size_alloc]; omega), by simp, BT.out _ _⟩); rintro e w' ⟨rfl, hL⟩; have HL := Aside0.mk hL; clear hL))
  go_ret
  exact ⟨rfl, HL.out.below⟩
end Go.Proofs.YtphkionjjhhhlaaGreat.Q
end
section
namespace Go.Proofs.YtphkionjjhhhlaaGreat.Q
open Go.RowKit Go.Proofs.YtphkionjjhhhlaaGreatW.PrintWords Go.Proofs.YtphkionjjhhhlaaGreatW.PrintLast Go.Proofs.YtphkionjjhhhlaaGreatW.PrintMore
mutual
def item_unused.j0 : Nat → Bool → Int → Int → List Int → List Int → List Int → Int → Int → Int → Int → List Int → Int → Bool → Option (Bool)
  | 0, _, _, _, _, _, _, _, _, _, _, _, _, _ => none
  | k + 1, x3, x209000, x209001, x209002, x209003, x209004, x209005, x209006, x209007, x209008, x209009, x209010, x209011 => if (x209004.length : Int) = 0 then (item_unused.j1 k x3 ((x209009.length : Int) == 0) x209000 x209001 x209002 x209003 x209004 x209005 x209006 x209007 x209008 x209009 x209010 x209011) else (item_unused.j1 k x3 false x209000 x209001 x209002 x209003 x209004 x209005 x209006 x209007 x209008 x209009 x209010 x209011)
def item_unused.j1 : Nat → Bool → Bool → Int → Int → List Int → List Int → List Int → Int → Int → Int → Int → List Int → Int → Bool → Option (Bool)
  | 0, _, _, _, _, _, _, _, _, _, _, _, _, _, _ => none
  | k + 1, x3, x4, x209000, x209001, x209002, x209003, x209004, x209005, x209006, x209007, x209008, x209009, x209010, x209011 => if x209007 = 0 then (item_unused.j2 k x3 x4 (x209008 == 0) x209000 x209001 x209002 x209003 x209004 x209005 x209006 x209007 x209008 x209009 x209010 x209011) else (item_unused.j2 k x3 x4 false x209000 x209001 x209002 x209003 x209004 x209005 x209006 x209007 x209008 x209009 x209010 x209011)
def item_unused.j2 : Nat → Bool → Bool → Bool → Int → Int → List Int → List Int → List Int → Int → Int → Int → Int → List Int → Int → Bool → Option (Bool)
  | 0, _, _, _, _, _, _, _, _, _, _, _, _, _, _, _ => none
  | k + 1, x3, x4, x5, x209000, x209001, x209002, x209003, x209004, x209005, x209006, x209007, x209008, x209009, x209010, x209011 => if x209001 = 0 then (if (x209003.length : Int) = 0 then (if x3 = true then (if x4 = true then (some x5) else (some false)) else (some false)) else (some false)) else (if x209001 = 1 then (if (x209002.length : Int) = 0 then (if x3 = true then (if x4 = true then (some x5) else (some false)) else (some false)) else (some false)) else (if x209001 = 2 then (if (x209002.length : Int) = 0 then (some x3) else (some false)) else (if (x209002.length : Int) = 0 then (some x4) else (some false))))
end
def item_unused.f (k : Nat) (a0_0 : Int) (a0_1 : Int) (l0_2 : List Int) (l0_3 : List Int) (l0_4 : List Int) (a0_5 : Int) (a0_6 : Int) (a0_7 : Int) (a0_8 : Int) (l0_9 : List Int) (a0_10 : Int) (a0_11 : Bool) : Option (Bool) := if a0_5 = 0 then (item_unused.j0 k (a0_6 == 0) a0_0 a0_1 l0_2 l0_3 l0_4 a0_5 a0_6 a0_7 a0_8 l0_9 a0_10 a0_11) else (item_unused.j0 k false a0_0 a0_1 l0_2 l0_3 l0_4 a0_5 a0_6 a0_7 a0_8 l0_9 a0_10 a0_11)
set_option maxHeartbeats 8000000 in
set_option maxRecDepth 100000 in
theorem item_unused.calls (k : Nat) (a0_0 : Int) (a0_1 : Int) (A0_2 : Option Addr) (c0_2 : Nat) (l0_2 : List Int) (A0_3 : Option Addr) (c0_3 : Nat) (l0_3 : List Int) (A0_4 : Option Addr) (c0_4 : Nat) (l0_4 : List Int) (a0_5 : Int) (a0_6 : Int) (a0_7 : Int) (a0_8 : Int) (A0_9 : Option Addr) (c0_9 : Nat) (l0_9 : List Int) (a0_10 : Int) (a0_11 : Bool) (r : Bool) (w : World) (hr0_2 : Kd.C (Kd.int .u8) w A0_2 l0_2.length l0_2) (hc0_2 : l0_2.length ≤ c0_2) (hr0_3 : Kd.C (Kd.int .i64) w A0_3 l0_3.length l0_3) (hc0_3 : l0_3.length ≤ c0_3) (hr0_4 : Kd.C (Kd.int .i64) w A0_4 l0_4.length l0_4) (hc0_4 : l0_4.length ≤ c0_4) (hr0_9 : Kd.C (Kd.int .i64) w A0_9 l0_9.length l0_9) (hc0_9 : l0_9.length ≤ c0_9) (h : item_unused.f k a0_0 a0_1 l0_2 l0_3 l0_4 a0_5 a0_6 a0_7 a0_8 l0_9 a0_10 a0_11 = some r) :
    Calls Tryz.prog 54 #[.agg #[.int .i64 a0_0, .int .i64 a0_1, .slice A0_2 l0_2.length c0_2, .slice A0_3 l0_3.length c0_3, .slice A0_4 l0_4.length c0_4, .int .i64 a0_5, .int .i64 a0_6, .int .i64 a0_7, .int .i64 a0_8, .slice A0_9 l0_9.length c0_9, .int .i64 a0_10, .bool a0_11]] w fun e w' => e = .returned (.bool r) ∧ Below w.heap.size w w' := by
  have hu68 := Tryz.underlying68
  have HR0_2 := Aside0.mk hr0_2
  have HC0_2 := Aside0.mk hc0_2
  clear hr0_2 hc0_2
  have HR0_3 := Aside0.mk hr0_3
  have HC0_3 := Aside0.mk hc0_3
  clear hr0_3 hc0_3
  have HR0_4 := Aside0.mk hr0_4
  have HC0_4 := Aside0.mk hc0_4
  clear hr0_4 hc0_4
  have HR0_9 := Aside0.mk hr0_9
  have HC0_9 := Aside0.mk hc0_9
  clear hr0_9 hc0_9
  have HB := Aside0.mk (Below.refl w.heap.size w)
  have H : (if a0_5 = 0 then (item_unused.j0 k (a0_6 == 0) a0_0 a0_1 l0_2 l0_3 l0_4 a0_5 a0_6 a0_7 a0_8 l0_9 a0_10 a0_11) else (item_unused.j0 k false a0_0 a0_1 l0_2 l0_3 l0_4 a0_5 a0_6 a0_7 a0_8 l0_9 a0_10 a0_11)) = some r := h
  clear h
  have HC2 := Aside0.mk H
  clear H
  go_enter Tryz.func54, Tryz.ntmps54
  go_upto_region 1 with (first | ((with_reducible refine gate_dst (N := 1) rfl ?_); (try (refine gate_guard (by rfl) ?_; dsimp only)); refine box_event ?hg (N := 1) ?hd (cs := #[.int .i64 a0_0, .int .i64 a0_1, .slice A0_2 l0_2.length c0_2, .slice A0_3 l0_3.length c0_3, .slice A0_4 l0_4.length c0_4, .int .i64 a0_5, .int .i64 a0_6, .int .i64 a0_7, .int .i64 a0_8, .slice A0_9 l0_9.length c0_9, .int .i64 a0_10, .bool a0_11]) (t := 68) ?hr ?_; (case hd => rfl); (case hg => rfl); (case hr => first | (go_simp; done) | (go_simp; rfl)); intro gb208 hg w3 hbox hb; have n0_ := Aside0.mk (below_step (by repeat (first | (with_reducible first | exact HB.out | apply below_alloc | apply pw_below_drewN | apply below_drew1) | exact HB.out)) hb); have n1_ := Aside0.mk (hbox); have n2_ := Aside0.mk ((by rw [hg]; exact (below_size (by repeat (first | (with_reducible first | exact HB.out | apply below_alloc | apply pw_below_drewN | apply below_drew1) | exact HB.out))) : w.heap.size ≤ gb208)); have n3_ := Aside0.mk ((by rw [hg]; exact (below_size (by repeat (first | (with_reducible first | exact HB.out | apply below_alloc | apply pw_below_drewN | apply below_drew1) | exact HB.out))) : w.heap.size ≤ gb208)); clear HB; have HB := n0_; have BK208 := n1_; have GW208 := n2_; have GE208 := n3_; clear n0_ n1_ n2_ n3_; clear hb hbox hg))
  (try simp only [Act.put, List.setIfInBounds_toArray, List.set_cons_zero, List.set_cons_succ])
  go_cut [3] (fun v3 wc => ∃ (kq : Nat) (x3_1 : Bool), v3 = .bool x3_1 ∧ Aside0 (item_unused.j0 kq x3_1 a0_0 a0_1 l0_2 l0_3 l0_4 a0_5 a0_6 a0_7 a0_8 l0_9 a0_10 a0_11 = some r) ∧ Aside0 (kq ≤ k) ∧ Aside0 (wc.heap[gb208]? = some (.cells #[.int .i64 a0_0, .int .i64 a0_1, (.slice A0_2 l0_2.length c0_2), (.slice A0_3 l0_3.length c0_3), (.slice A0_4 l0_4.length c0_4), .int .i64 a0_5, .int .i64 a0_6, .int .i64 a0_7, .int .i64 a0_8, (.slice A0_9 l0_9.length c0_9), .int .i64 a0_10, .bool a0_11] 68 (0, 0))) ∧ Aside0 (Below w.heap.size w wc))
  case first =>
    have H := HC2.out
    clear HC2
    by_cases c4 : a0_5 = 0
    · rw [if_pos c4] at H
      have c4b0 : (a0_5 == 0) = true := beq_iff_eq.mpr c4
      have c4b1 : (a0_5 != 0) = false := bne_eq_false_iff_eq.mpr c4
      clear c4
      (first | rw [c4b0] | (simp only [i64_w, i32_w]; rw [c4b0]) | skip)
      have H' := Aside0.mk H
      clear H
      have hcz5_0 : w3.cell? ⟨gb208, 0, none⟩ = some (.int .i64 a0_0) := (blk_cell BK208.out 0).trans rfl
      have hcz5_1 : w3.cell? ⟨gb208, 1, none⟩ = some (.int .i64 a0_1) := (blk_cell BK208.out 1).trans rfl
      have hcz5_2 : w3.cell? ⟨gb208, 2, none⟩ = some (.slice A0_2 l0_2.length c0_2) := (blk_cell BK208.out 2).trans rfl
      have hcz5_3 : w3.cell? ⟨gb208, 3, none⟩ = some (.slice A0_3 l0_3.length c0_3) := (blk_cell BK208.out 3).trans rfl
      have hcz5_4 : w3.cell? ⟨gb208, 4, none⟩ = some (.slice A0_4 l0_4.length c0_4) := (blk_cell BK208.out 4).trans rfl
      have hcz5_5 : w3.cell? ⟨gb208, 5, none⟩ = some (.int .i64 a0_5) := (blk_cell BK208.out 5).trans rfl
      have hcz5_6 : w3.cell? ⟨gb208, 6, none⟩ = some (.int .i64 a0_6) := (blk_cell BK208.out 6).trans rfl
      have hcz5_7 : w3.cell? ⟨gb208, 7, none⟩ = some (.int .i64 a0_7) := (blk_cell BK208.out 7).trans rfl
      have hcz5_8 : w3.cell? ⟨gb208, 8, none⟩ = some (.int .i64 a0_8) := (blk_cell BK208.out 8).trans rfl
      have hcz5_9 : w3.cell? ⟨gb208, 9, none⟩ = some (.slice A0_9 l0_9.length c0_9) := (blk_cell BK208.out 9).trans rfl
      have hcz5_10 : w3.cell? ⟨gb208, 10, none⟩ = some (.int .i64 a0_10) := (blk_cell BK208.out 10).trans rfl
      have hcz5_11 : w3.cell? ⟨gb208, 11, none⟩ = some (.bool a0_11) := (blk_cell BK208.out 11).trans rfl
      have hfz5_0 := blk_frozen BK208.out 0
      have hfz5_1 := blk_frozen BK208.out 1
      have hfz5_2 := blk_frozen BK208.out 2
      have hfz5_3 := blk_frozen BK208.out 3
      have hfz5_4 := blk_frozen BK208.out 4
      have hfz5_5 := blk_frozen BK208.out 5
      have hfz5_6 := blk_frozen BK208.out 6
      have hfz5_7 := blk_frozen BK208.out 7
      have hfz5_8 := blk_frozen BK208.out 8
      have hfz5_9 := blk_frozen BK208.out 9
      have hfz5_10 := blk_frozen BK208.out 10
      have hfz5_11 := blk_frozen BK208.out 11
      go_wp2
      go_meet
      case rel => exact ⟨_, ((a0_6 == 0)), (by first | rfl | (simp; done) | (simp [*]; done)), H', ⟨by first | omega | exact Nat.le_refl _⟩, ⟨by (with_reducible repeat (first | refine blk_drewN ?_ _ | refine blk_drew ?_ | refine blk_alloc ?_ _)); exact BK208.out⟩, ⟨by repeat (first | (with_reducible first | exact HB.out | apply below_alloc | apply pw_below_drewN | apply below_drew1 | refine below_set ?_ GE208.out) | exact HB.out)⟩⟩
    · rw [if_neg c4] at H
      have c4b0 : (a0_5 == 0) = false := beq_eq_false_iff_ne.mpr c4
      have c4b1 : (a0_5 != 0) = true := bne_iff_ne.mpr c4
      (first | rw [c4b0] | (simp only [i64_w, i32_w]; rw [c4b0]) | skip)
      have H' := Aside0.mk H
      clear H
      have hcz6_0 : w3.cell? ⟨gb208, 0, none⟩ = some (.int .i64 a0_0) := (blk_cell BK208.out 0).trans rfl
      have hcz6_1 : w3.cell? ⟨gb208, 1, none⟩ = some (.int .i64 a0_1) := (blk_cell BK208.out 1).trans rfl
      have hcz6_2 : w3.cell? ⟨gb208, 2, none⟩ = some (.slice A0_2 l0_2.length c0_2) := (blk_cell BK208.out 2).trans rfl
      have hcz6_3 : w3.cell? ⟨gb208, 3, none⟩ = some (.slice A0_3 l0_3.length c0_3) := (blk_cell BK208.out 3).trans rfl
      have hcz6_4 : w3.cell? ⟨gb208, 4, none⟩ = some (.slice A0_4 l0_4.length c0_4) := (blk_cell BK208.out 4).trans rfl
      have hcz6_5 : w3.cell? ⟨gb208, 5, none⟩ = some (.int .i64 a0_5) := (blk_cell BK208.out 5).trans rfl
      have hcz6_6 : w3.cell? ⟨gb208, 6, none⟩ = some (.int .i64 a0_6) := (blk_cell BK208.out 6).trans rfl
      have hcz6_7 : w3.cell? ⟨gb208, 7, none⟩ = some (.int .i64 a0_7) := (blk_cell BK208.out 7).trans rfl
      have hcz6_8 : w3.cell? ⟨gb208, 8, none⟩ = some (.int .i64 a0_8) := (blk_cell BK208.out 8).trans rfl
      have hcz6_9 : w3.cell? ⟨gb208, 9, none⟩ = some (.slice A0_9 l0_9.length c0_9) := (blk_cell BK208.out 9).trans rfl
      have hcz6_10 : w3.cell? ⟨gb208, 10, none⟩ = some (.int .i64 a0_10) := (blk_cell BK208.out 10).trans rfl
      have hcz6_11 : w3.cell? ⟨gb208, 11, none⟩ = some (.bool a0_11) := (blk_cell BK208.out 11).trans rfl
      have hfz6_0 := blk_frozen BK208.out 0
      have hfz6_1 := blk_frozen BK208.out 1
      have hfz6_2 := blk_frozen BK208.out 2
      have hfz6_3 := blk_frozen BK208.out 3
      have hfz6_4 := blk_frozen BK208.out 4
      have hfz6_5 := blk_frozen BK208.out 5
      have hfz6_6 := blk_frozen BK208.out 6
      have hfz6_7 := blk_frozen BK208.out 7
      have hfz6_8 := blk_frozen BK208.out 8
      have hfz6_9 := blk_frozen BK208.out 9
      have hfz6_10 := blk_frozen BK208.out 10
      have hfz6_11 := blk_frozen BK208.out 11
      go_wp2
      go_meet
      case rel => exact ⟨_, (false), (by first | rfl | (simp; done) | (simp [*]; done)), H', ⟨by first | omega | exact Nat.le_refl _⟩, ⟨by (with_reducible repeat (first | refine blk_drewN ?_ _ | refine blk_drew ?_ | refine blk_alloc ?_ _)); exact BK208.out⟩, ⟨by repeat (first | (with_reducible first | exact HB.out | apply below_alloc | apply pw_below_drewN | apply below_drew1 | refine below_set ?_ GE208.out) | exact HB.out)⟩⟩
  case rest =>
    clear HC2
    try clear p2
    try clear c4
    try clear c4b0
    try clear c4b1
    try clear c5
    try clear hcz5_0
    try clear hcz5_1
    try clear hcz5_10
    try clear hcz5_11
    try clear hcz5_2
    try clear hcz5_3
    try clear hcz5_4
    try clear hcz5_5
    try clear hcz5_6
    try clear hcz5_7
    try clear hcz5_8
    try clear hcz5_9
    try clear hcz6_0
    try clear hcz6_1
    try clear hcz6_10
    try clear hcz6_11
    try clear hcz6_2
    try clear hcz6_3
    try clear hcz6_4
    try clear hcz6_5
    try clear hcz6_6
    try clear hcz6_7
    try clear hcz6_8
    try clear hcz6_9
    try clear hfz5_0
    try clear hfz5_1
    try clear hfz5_10
    try clear hfz5_11
    try clear hfz5_2
    try clear hfz5_3
    try clear hfz5_4
    try clear hfz5_5
    try clear hfz5_6
    try clear hfz5_7
    try clear hfz5_8
    try clear hfz5_9
    try clear hfz6_0
    try clear hfz6_1
    try clear hfz6_10
    try clear hfz6_11
    try clear hfz6_2
    try clear hfz6_3
    try clear hfz6_4
    try clear hfz6_5
    try clear hfz6_6
    try clear hfz6_7
    try clear hfz6_8
    try clear hfz6_9
    obtain ⟨kq, x3_1, rfl, HA, HJ1, BK208, HB⟩ := hcut
    cases kq with
    | zero => exact absurd HA.out (by simp [item_unused.j0])
    | succ kj1 =>
      have H := HA.out
      clear HA
      simp only [item_unused.j0] at H
      have HC7 := Aside0.mk H
      clear H
      go_upto_region 2 with (fail)
      go_cut [4] (fun v4 wc => ∃ (kq : Nat) (x4_6 : Bool), v4 = .bool x4_6 ∧ Aside0 (item_unused.j1 kq x3_1 x4_6 a0_0 a0_1 l0_2 l0_3 l0_4 a0_5 a0_6 a0_7 a0_8 l0_9 a0_10 a0_11 = some r) ∧ Aside0 (kq ≤ kj1) ∧ Aside0 (wc.heap[gb208]? = some (.cells #[.int .i64 a0_0, .int .i64 a0_1, (.slice A0_2 l0_2.length c0_2), (.slice A0_3 l0_3.length c0_3), (.slice A0_4 l0_4.length c0_4), .int .i64 a0_5, .int .i64 a0_6, .int .i64 a0_7, .int .i64 a0_8, (.slice A0_9 l0_9.length c0_9), .int .i64 a0_10, .bool a0_11] 68 (0, 0))) ∧ Aside0 (Below w.heap.size w wc))
      case first =>
        have H := HC7.out
        clear HC7
        by_cases c8 : (l0_4.length : Int) = 0
        · rw [if_pos c8] at H
          have c8b0 : ((l0_4.length : Int) == 0) = true := beq_iff_eq.mpr c8
          have c8b1 : ((l0_4.length : Int) != 0) = false := bne_eq_false_iff_eq.mpr c8
          clear c8
          (first | rw [c8b0] | (simp only [i64_w, i32_w]; rw [c8b0]) | skip)
          have H' := Aside0.mk H
          clear H
          have hcz9_0 : wc.cell? ⟨gb208, 0, none⟩ = some (.int .i64 a0_0) := (blk_cell BK208.out 0).trans rfl
          have hcz9_1 : wc.cell? ⟨gb208, 1, none⟩ = some (.int .i64 a0_1) := (blk_cell BK208.out 1).trans rfl
          have hcz9_2 : wc.cell? ⟨gb208, 2, none⟩ = some (.slice A0_2 l0_2.length c0_2) := (blk_cell BK208.out 2).trans rfl
          have hcz9_3 : wc.cell? ⟨gb208, 3, none⟩ = some (.slice A0_3 l0_3.length c0_3) := (blk_cell BK208.out 3).trans rfl
          have hcz9_4 : wc.cell? ⟨gb208, 4, none⟩ = some (.slice A0_4 l0_4.length c0_4) := (blk_cell BK208.out 4).trans rfl
          have hcz9_5 : wc.cell? ⟨gb208, 5, none⟩ = some (.int .i64 a0_5) := (blk_cell BK208.out 5).trans rfl
          have hcz9_6 : wc.cell? ⟨gb208, 6, none⟩ = some (.int .i64 a0_6) := (blk_cell BK208.out 6).trans rfl
          have hcz9_7 : wc.cell? ⟨gb208, 7, none⟩ = some (.int .i64 a0_7) := (blk_cell BK208.out 7).trans rfl
          have hcz9_8 : wc.cell? ⟨gb208, 8, none⟩ = some (.int .i64 a0_8) := (blk_cell BK208.out 8).trans rfl
          have hcz9_9 : wc.cell? ⟨gb208, 9, none⟩ = some (.slice A0_9 l0_9.length c0_9) := (blk_cell BK208.out 9).trans rfl
          have hcz9_10 : wc.cell? ⟨gb208, 10, none⟩ = some (.int .i64 a0_10) := (blk_cell BK208.out 10).trans rfl
          have hcz9_11 : wc.cell? ⟨gb208, 11, none⟩ = some (.bool a0_11) := (blk_cell BK208.out 11).trans rfl
          have hfz9_0 := blk_frozen BK208.out 0
          have hfz9_1 := blk_frozen BK208.out 1
          have hfz9_2 := blk_frozen BK208.out 2
          have hfz9_3 := blk_frozen BK208.out 3
          have hfz9_4 := blk_frozen BK208.out 4
          have hfz9_5 := blk_frozen BK208.out 5
          have hfz9_6 := blk_frozen BK208.out 6
          have hfz9_7 := blk_frozen BK208.out 7
          have hfz9_8 := blk_frozen BK208.out 8
          have hfz9_9 := blk_frozen BK208.out 9
          have hfz9_10 := blk_frozen BK208.out 10
          have hfz9_11 := blk_frozen BK208.out 11
          go_wp2
          go_meet
          case rel => exact ⟨_, (((l0_9.length : Int) == 0)), (by first | rfl | (simp; done) | (simp [*]; done)), H', ⟨by have := HJ1.out; first | omega | exact Nat.le_refl _⟩, ⟨by (with_reducible repeat (first | refine blk_drewN ?_ _ | refine blk_drew ?_ | refine blk_alloc ?_ _)); exact BK208.out⟩, ⟨by repeat (first | (with_reducible first | exact HB.out | apply below_alloc | apply pw_below_drewN | apply below_drew1 | refine below_set ?_ GE208.out) | exact HB.out)⟩⟩
        · rw [if_neg c8] at H
          have c8b0 : ((l0_4.length : Int) == 0) = false := beq_eq_false_iff_ne.mpr c8
          have c8b1 : ((l0_4.length : Int) != 0) = true := bne_iff_ne.mpr c8
          have c8b2 : ¬ (l0_4 = []) := fun h_ => c8 (by rw [h_]; rfl)
          (first | rw [c8b0] | (simp only [i64_w, i32_w]; rw [c8b0]) | skip)
          have H' := Aside0.mk H
          clear H
          have hcz10_0 : wc.cell? ⟨gb208, 0, none⟩ = some (.int .i64 a0_0) := (blk_cell BK208.out 0).trans rfl
          have hcz10_1 : wc.cell? ⟨gb208, 1, none⟩ = some (.int .i64 a0_1) := (blk_cell BK208.out 1).trans rfl
          have hcz10_2 : wc.cell? ⟨gb208, 2, none⟩ = some (.slice A0_2 l0_2.length c0_2) := (blk_cell BK208.out 2).trans rfl
          have hcz10_3 : wc.cell? ⟨gb208, 3, none⟩ = some (.slice A0_3 l0_3.length c0_3) := (blk_cell BK208.out 3).trans rfl
          have hcz10_4 : wc.cell? ⟨gb208, 4, none⟩ = some (.slice A0_4 l0_4.length c0_4) := (blk_cell BK208.out 4).trans rfl
          have hcz10_5 : wc.cell? ⟨gb208, 5, none⟩ = some (.int .i64 a0_5) := (blk_cell BK208.out 5).trans rfl
          have hcz10_6 : wc.cell? ⟨gb208, 6, none⟩ = some (.int .i64 a0_6) := (blk_cell BK208.out 6).trans rfl
          have hcz10_7 : wc.cell? ⟨gb208, 7, none⟩ = some (.int .i64 a0_7) := (blk_cell BK208.out 7).trans rfl
          have hcz10_8 : wc.cell? ⟨gb208, 8, none⟩ = some (.int .i64 a0_8) := (blk_cell BK208.out 8).trans rfl
          have hcz10_9 : wc.cell? ⟨gb208, 9, none⟩ = some (.slice A0_9 l0_9.length c0_9) := (blk_cell BK208.out 9).trans rfl
          have hcz10_10 : wc.cell? ⟨gb208, 10, none⟩ = some (.int .i64 a0_10) := (blk_cell BK208.out 10).trans rfl
          have hcz10_11 : wc.cell? ⟨gb208, 11, none⟩ = some (.bool a0_11) := (blk_cell BK208.out 11).trans rfl
          have hfz10_0 := blk_frozen BK208.out 0
          have hfz10_1 := blk_frozen BK208.out 1
          have hfz10_2 := blk_frozen BK208.out 2
          have hfz10_3 := blk_frozen BK208.out 3
          have hfz10_4 := blk_frozen BK208.out 4
          have hfz10_5 := blk_frozen BK208.out 5
          have hfz10_6 := blk_frozen BK208.out 6
          have hfz10_7 := blk_frozen BK208.out 7
          have hfz10_8 := blk_frozen BK208.out 8
          have hfz10_9 := blk_frozen BK208.out 9
          have hfz10_10 := blk_frozen BK208.out 10
          have hfz10_11 := blk_frozen BK208.out 11
          go_wp2
          go_meet
          case rel => exact ⟨_, (false), (by first | rfl | (simp; done) | (simp [*]; done)), H', ⟨by have := HJ1.out; first | omega | exact Nat.le_refl _⟩, ⟨by (with_reducible repeat (first | refine blk_drewN ?_ _ | refine blk_drew ?_ | refine blk_alloc ?_ _)); exact BK208.out⟩, ⟨by repeat (first | (with_reducible first | exact HB.out | apply below_alloc | apply pw_below_drewN | apply below_drew1 | refine below_set ?_ GE208.out) | exact HB.out)⟩⟩
      case rest =>
        clear HC7
        try clear p2
        try clear c4
        try clear c4b0
        try clear c4b1
        try clear c5
        try clear c8
        try clear c8b0
        try clear c8b1
        try clear c8b2
        try clear hcz10_0
        try clear hcz10_1
        try clear hcz10_10
        try clear hcz10_11
        try clear hcz10_2
        try clear hcz10_3
        try clear hcz10_4
        try clear hcz10_5
        try clear hcz10_6
        try clear hcz10_7
        try clear hcz10_8
        try clear hcz10_9
        try clear hcz5_0
        try clear hcz5_1
        try clear hcz5_10
        try clear hcz5_11
        try clear hcz5_2
        try clear hcz5_3
        try clear hcz5_4
        try clear hcz5_5
        try clear hcz5_6
        try clear hcz5_7
        try clear hcz5_8
        try clear hcz5_9
        try clear hcz6_0
        try clear hcz6_1
        try clear hcz6_10
        try clear hcz6_11
        try clear hcz6_2
        try clear hcz6_3
        try clear hcz6_4
        try clear hcz6_5
        try clear hcz6_6
        try clear hcz6_7
        try clear hcz6_8
        try clear hcz6_9
        try clear hcz9_0
        try clear hcz9_1
        try clear hcz9_10
        try clear hcz9_11
        try clear hcz9_2
        try clear hcz9_3
        try clear hcz9_4
        try clear hcz9_5
        try clear hcz9_6
        try clear hcz9_7
        try clear hcz9_8
        try clear hcz9_9
        try clear hfz10_0
        try clear hfz10_1
        try clear hfz10_10
        try clear hfz10_11
        try clear hfz10_2
        try clear hfz10_3
        try clear hfz10_4
        try clear hfz10_5
        try clear hfz10_6
        try clear hfz10_7
        try clear hfz10_8
        try clear hfz10_9
        try clear hfz5_0
        try clear hfz5_1
        try clear hfz5_10
        try clear hfz5_11
        try clear hfz5_2
        try clear hfz5_3
        try clear hfz5_4
        try clear hfz5_5
        try clear hfz5_6
        try clear hfz5_7
        try clear hfz5_8
        try clear hfz5_9
        try clear hfz6_0
        try clear hfz6_1
        try clear hfz6_10
        try clear hfz6_11
        try clear hfz6_2
        try clear hfz6_3
        try clear hfz6_4
        try clear hfz6_5
        try clear hfz6_6
        try clear hfz6_7
        try clear hfz6_8
        try clear hfz6_9
        try clear hfz9_0
        try clear hfz9_1
        try clear hfz9_10
        try clear hfz9_11
        try clear hfz9_2
        try clear hfz9_3
        try clear hfz9_4
        try clear hfz9_5
        try clear hfz9_6
        try clear hfz9_7
        try clear hfz9_8
        try clear hfz9_9
        try clear p2
        obtain ⟨kq, x4_6, rfl, HA, HJ6, BK208, HB⟩ := hcut
        cases kq with
        | zero => exact absurd HA.out (by simp [item_unused.j1])
        | succ kj6 =>
          have H := HA.out
          clear HA
          simp only [item_unused.j1] at H
          have HC11 := Aside0.mk H
          clear H
          go_upto_region 3 with (fail)
          go_cut [5] (fun v5 wc => ∃ (kq : Nat) (x5_10 : Bool), v5 = .bool x5_10 ∧ Aside0 (item_unused.j2 kq x3_1 x4_6 x5_10 a0_0 a0_1 l0_2 l0_3 l0_4 a0_5 a0_6 a0_7 a0_8 l0_9 a0_10 a0_11 = some r) ∧ Aside0 (kq ≤ kj6) ∧ Aside0 (wc.heap[gb208]? = some (.cells #[.int .i64 a0_0, .int .i64 a0_1, (.slice A0_2 l0_2.length c0_2), (.slice A0_3 l0_3.length c0_3), (.slice A0_4 l0_4.length c0_4), .int .i64 a0_5, .int .i64 a0_6, .int .i64 a0_7, .int .i64 a0_8, (.slice A0_9 l0_9.length c0_9), .int .i64 a0_10, .bool a0_11] 68 (0, 0))) ∧ Aside0 (Below w.heap.size w wc))
          case first =>
            have H := HC11.out
            clear HC11
            by_cases c12 : a0_7 = 0
            · rw [if_pos c12] at H
              have c12b0 : (a0_7 == 0) = true := beq_iff_eq.mpr c12
              have c12b1 : (a0_7 != 0) = false := bne_eq_false_iff_eq.mpr c12
              clear c12
              (first | rw [c12b0] | (simp only [i64_w, i32_w]; rw [c12b0]) | skip)
              have H' := Aside0.mk H
              clear H
              have hcz13_0 : wc.cell? ⟨gb208, 0, none⟩ = some (.int .i64 a0_0) := (blk_cell BK208.out 0).trans rfl
              have hcz13_1 : wc.cell? ⟨gb208, 1, none⟩ = some (.int .i64 a0_1) := (blk_cell BK208.out 1).trans rfl
              have hcz13_2 : wc.cell? ⟨gb208, 2, none⟩ = some (.slice A0_2 l0_2.length c0_2) := (blk_cell BK208.out 2).trans rfl
              have hcz13_3 : wc.cell? ⟨gb208, 3, none⟩ = some (.slice A0_3 l0_3.length c0_3) := (blk_cell BK208.out 3).trans rfl
              have hcz13_4 : wc.cell? ⟨gb208, 4, none⟩ = some (.slice A0_4 l0_4.length c0_4) := (blk_cell BK208.out 4).trans rfl
              have hcz13_5 : wc.cell? ⟨gb208, 5, none⟩ = some (.int .i64 a0_5) := (blk_cell BK208.out 5).trans rfl
              have hcz13_6 : wc.cell? ⟨gb208, 6, none⟩ = some (.int .i64 a0_6) := (blk_cell BK208.out 6).trans rfl
              have hcz13_7 : wc.cell? ⟨gb208, 7, none⟩ = some (.int .i64 a0_7) := (blk_cell BK208.out 7).trans rfl
              have hcz13_8 : wc.cell? ⟨gb208, 8, none⟩ = some (.int .i64 a0_8) := (blk_cell BK208.out 8).trans rfl
              have hcz13_9 : wc.cell? ⟨gb208, 9, none⟩ = some (.slice A0_9 l0_9.length c0_9) := (blk_cell BK208.out 9).trans rfl
              have hcz13_10 : wc.cell? ⟨gb208, 10, none⟩ = some (.int .i64 a0_10) := (blk_cell BK208.out 10).trans rfl
              have hcz13_11 : wc.cell? ⟨gb208, 11, none⟩ = some (.bool a0_11) := (blk_cell BK208.out 11).trans rfl
              have hfz13_0 := blk_frozen BK208.out 0
              have hfz13_1 := blk_frozen BK208.out 1
              have hfz13_2 := blk_frozen BK208.out 2
              have hfz13_3 := blk_frozen BK208.out 3
              have hfz13_4 := blk_frozen BK208.out 4
              have hfz13_5 := blk_frozen BK208.out 5
              have hfz13_6 := blk_frozen BK208.out 6
              have hfz13_7 := blk_frozen BK208.out 7
              have hfz13_8 := blk_frozen BK208.out 8
              have hfz13_9 := blk_frozen BK208.out 9
              have hfz13_10 := blk_frozen BK208.out 10
              have hfz13_11 := blk_frozen BK208.out 11
              go_wp2
              go_meet
              case rel => exact ⟨_, ((a0_8 == 0)), (by first | rfl | (simp; done) | (simp [*]; done)), H', ⟨by have := HJ1.out; have := HJ6.out; first | omega | exact Nat.le_refl _⟩, ⟨by (with_reducible repeat (first | refine blk_drewN ?_ _ | refine blk_drew ?_ | refine blk_alloc ?_ _)); exact BK208.out⟩, ⟨by repeat (first | (with_reducible first | exact HB.out | apply below_alloc | apply pw_below_drewN | apply below_drew1 | refine below_set ?_ GE208.out) | exact HB.out)⟩⟩
            · rw [if_neg c12] at H
              have c12b0 : (a0_7 == 0) = false := beq_eq_false_iff_ne.mpr c12
              have c12b1 : (a0_7 != 0) = true := bne_iff_ne.mpr c12
              (first | rw [c12b0] | (simp only [i64_w, i32_w]; rw [c12b0]) | skip)
              have H' := Aside0.mk H
              clear H
              have hcz14_0 : wc.cell? ⟨gb208, 0, none⟩ = some (.int .i64 a0_0) := (blk_cell BK208.out 0).trans rfl
              have hcz14_1 : wc.cell? ⟨gb208, 1, none⟩ = some (.int .i64 a0_1) := (blk_cell BK208.out 1).trans rfl
              have hcz14_2 : wc.cell? ⟨gb208, 2, none⟩ = some (.slice A0_2 l0_2.length c0_2) := (blk_cell BK208.out 2).trans rfl
              have hcz14_3 : wc.cell? ⟨gb208, 3, none⟩ = some (.slice A0_3 l0_3.length c0_3) := (blk_cell BK208.out 3).trans rfl
              have hcz14_4 : wc.cell? ⟨gb208, 4, none⟩ = some (.slice A0_4 l0_4.length c0_4) := (blk_cell BK208.out 4).trans rfl
              have hcz14_5 : wc.cell? ⟨gb208, 5, none⟩ = some (.int .i64 a0_5) := (blk_cell BK208.out 5).trans rfl
              have hcz14_6 : wc.cell? ⟨gb208, 6, none⟩ = some (.int .i64 a0_6) := (blk_cell BK208.out 6).trans rfl
              have hcz14_7 : wc.cell? ⟨gb208, 7, none⟩ = some (.int .i64 a0_7) := (blk_cell BK208.out 7).trans rfl
              have hcz14_8 : wc.cell? ⟨gb208, 8, none⟩ = some (.int .i64 a0_8) := (blk_cell BK208.out 8).trans rfl
              have hcz14_9 : wc.cell? ⟨gb208, 9, none⟩ = some (.slice A0_9 l0_9.length c0_9) := (blk_cell BK208.out 9).trans rfl
              have hcz14_10 : wc.cell? ⟨gb208, 10, none⟩ = some (.int .i64 a0_10) := (blk_cell BK208.out 10).trans rfl
              have hcz14_11 : wc.cell? ⟨gb208, 11, none⟩ = some (.bool a0_11) := (blk_cell BK208.out 11).trans rfl
              have hfz14_0 := blk_frozen BK208.out 0
              have hfz14_1 := blk_frozen BK208.out 1
              have hfz14_2 := blk_frozen BK208.out 2
              have hfz14_3 := blk_frozen BK208.out 3
              have hfz14_4 := blk_frozen BK208.out 4
              have hfz14_5 := blk_frozen BK208.out 5
              have hfz14_6 := blk_frozen BK208.out 6
              have hfz14_7 := blk_frozen BK208.out 7
              have hfz14_8 := blk_frozen BK208.out 8
              have hfz14_9 := blk_frozen BK208.out 9
              have hfz14_10 := blk_frozen BK208.out 10
              have hfz14_11 := blk_frozen BK208.out 11
              go_wp2
              go_meet
              case rel => exact ⟨_, (false), (by first | rfl | (simp; done) | (simp [*]; done)), H', ⟨by have := HJ1.out; have := HJ6.out; first | omega | exact Nat.le_refl _⟩, ⟨by (with_reducible repeat (first | refine blk_drewN ?_ _ | refine blk_drew ?_ | refine blk_alloc ?_ _)); exact BK208.out⟩, ⟨by repeat (first | (with_reducible first | exact HB.out | apply below_alloc | apply pw_below_drewN | apply below_drew1 | refine below_set ?_ GE208.out) | exact HB.out)⟩⟩
          case rest =>
            clear HC11
            try clear c1
            try clear p2
            try clear c4
            try clear c4b0
            try clear c4b1
            try clear c5
            try clear c8
            try clear c8b0
            try clear c8b1
            try clear c8b2
            try clear c12
            try clear c12b0
            try clear c12b1
            try clear hcz10_0
            try clear hcz10_1
            try clear hcz10_10
            try clear hcz10_11
            try clear hcz10_2
            try clear hcz10_3
            try clear hcz10_4
            try clear hcz10_5
            try clear hcz10_6
            try clear hcz10_7
            try clear hcz10_8
            try clear hcz10_9
            try clear hcz13_0
            try clear hcz13_1
            try clear hcz13_10
            try clear hcz13_11
            try clear hcz13_2
            try clear hcz13_3
            try clear hcz13_4
            try clear hcz13_5
            try clear hcz13_6
            try clear hcz13_7
            try clear hcz13_8
            try clear hcz13_9
            try clear hcz14_0
            try clear hcz14_1
            try clear hcz14_10
            try clear hcz14_11
            try clear hcz14_2
            try clear hcz14_3
            try clear hcz14_4
            try clear hcz14_5
            try clear hcz14_6
            try clear hcz14_7
            try clear hcz14_8
            try clear hcz14_9
            try clear hcz5_0
            try clear hcz5_1
            try clear hcz5_10
            try clear hcz5_11
            try clear hcz5_2
            try clear hcz5_3
            try clear hcz5_4
            try clear hcz5_5
            try clear hcz5_6
            try clear hcz5_7
            try clear hcz5_8
            try clear hcz5_9
            try clear hcz6_0
            try clear hcz6_1
            try clear hcz6_10
            try clear hcz6_11
            try clear hcz6_2
            try clear hcz6_3
            try clear hcz6_4
            try clear hcz6_5
            try clear hcz6_6
            try clear hcz6_7
            try clear hcz6_8
            try clear hcz6_9
            try clear hcz9_0
            try clear hcz9_1
            try clear hcz9_10
            try clear hcz9_11
            try clear hcz9_2
            try clear hcz9_3
            try clear hcz9_4
            try clear hcz9_5
            try clear hcz9_6
            try clear hcz9_7
            try clear hcz9_8
            try clear hcz9_9
            try clear hfz10_0
            try clear hfz10_1
            try clear hfz10_10
            try clear hfz10_11
            try clear hfz10_2
            try clear hfz10_3
            try clear hfz10_4
            try clear hfz10_5
            try clear hfz10_6
            try clear hfz10_7
            try clear hfz10_8
            try clear hfz10_9
            try clear hfz13_0
            try clear hfz13_1
            try clear hfz13_10
            try clear hfz13_11
            try clear hfz13_2
            try clear hfz13_3
            try clear hfz13_4
            try clear hfz13_5
            try clear hfz13_6
            try clear hfz13_7
            try clear hfz13_8
            try clear hfz13_9
            try clear hfz14_0
            try clear hfz14_1
            try clear hfz14_10
            try clear hfz14_11
            try clear hfz14_2
            try clear hfz14_3
            try clear hfz14_4
            try clear hfz14_5
            try clear hfz14_6
            try clear hfz14_7
            try clear hfz14_8
            try clear hfz14_9
            try clear hfz5_0
            try clear hfz5_1
            try clear hfz5_10
            try clear hfz5_11
            try clear hfz5_2
            try clear hfz5_3
            try clear hfz5_4
            try clear hfz5_5
            try clear hfz5_6
            try clear hfz5_7
            try clear hfz5_8
            try clear hfz5_9
            try clear hfz6_0
            try clear hfz6_1
            try clear hfz6_10
            try clear hfz6_11
            try clear hfz6_2
            try clear hfz6_3
            try clear hfz6_4
            try clear hfz6_5
            try clear hfz6_6
            try clear hfz6_7
            try clear hfz6_8
            try clear hfz6_9
            try clear hfz9_0
            try clear hfz9_1
            try clear hfz9_10
            try clear hfz9_11
            try clear hfz9_2
            try clear hfz9_3
            try clear hfz9_4
            try clear hfz9_5
            try clear hfz9_6
            try clear hfz9_7
            try clear hfz9_8
            try clear hfz9_9
            try clear p2
            obtain ⟨kq, x5_10, rfl, HA, HJ10, BK208, HB⟩ := hcut
            cases kq with
            | zero => exact absurd HA.out (by simp [item_unused.j2])
            | succ kj10 =>
              have H := HA.out
              clear HA
              simp only [item_unused.j2] at H
              by_cases c15 : a0_1 = 0
              · rw [if_pos c15] at H
                have c15b0 : (a0_1 == 0) = true := beq_iff_eq.mpr c15
                have c15b1 : (a0_1 != 0) = false := bne_eq_false_iff_eq.mpr c15
                clear c15
                by_cases c16 : (l0_3.length : Int) = 0
                · rw [if_pos c16] at H
                  have c16b0 : ((l0_3.length : Int) == 0) = true := beq_iff_eq.mpr c16
                  have c16b1 : ((l0_3.length : Int) != 0) = false := bne_eq_false_iff_eq.mpr c16
                  clear c16
                  by_cases c17 : x3_1 = true
                  · subst c17
                    have H1 : (if x4_6 = true then (some x5_10) else (some false)) = some r := by rw [if_pos rfl] at H; exact H
                    clear H
                    have H := H1
                    clear H1
                    by_cases c18 : x4_6 = true
                    · subst c18
                      have H1 : (some x5_10) = some r := by rw [if_pos rfl] at H; exact H
                      clear H
                      have H := H1
                      clear H1
                      obtain rfl := Option.some.inj H
                      have hcz19_0 : wc.cell? ⟨gb208, 0, none⟩ = some (.int .i64 a0_0) := (blk_cell BK208.out 0).trans rfl
                      have hcz19_1 : wc.cell? ⟨gb208, 1, none⟩ = some (.int .i64 a0_1) := (blk_cell BK208.out 1).trans rfl
                      have hcz19_2 : wc.cell? ⟨gb208, 2, none⟩ = some (.slice A0_2 l0_2.length c0_2) := (blk_cell BK208.out 2).trans rfl
                      have hcz19_3 : wc.cell? ⟨gb208, 3, none⟩ = some (.slice A0_3 l0_3.length c0_3) := (blk_cell BK208.out 3).trans rfl
                      have hcz19_4 : wc.cell? ⟨gb208, 4, none⟩ = some (.slice A0_4 l0_4.length c0_4) := (blk_cell BK208.out 4).trans rfl
                      have hcz19_5 : wc.cell? ⟨gb208, 5, none⟩ = some (.int .i64 a0_5) := (blk_cell BK208.out 5).trans rfl
                      have hcz19_6 : wc.cell? ⟨gb208, 6, none⟩ = some (.int .i64 a0_6) := (blk_cell BK208.out 6).trans rfl
                      have hcz19_7 : wc.cell? ⟨gb208, 7, none⟩ = some (.int .i64 a0_7) := (blk_cell BK208.out 7).trans rfl
                      have hcz19_8 : wc.cell? ⟨gb208, 8, none⟩ = some (.int .i64 a0_8) := (blk_cell BK208.out 8).trans rfl
                      have hcz19_9 : wc.cell? ⟨gb208, 9, none⟩ = some (.slice A0_9 l0_9.length c0_9) := (blk_cell BK208.out 9).trans rfl
                      have hcz19_10 : wc.cell? ⟨gb208, 10, none⟩ = some (.int .i64 a0_10) := (blk_cell BK208.out 10).trans rfl
                      have hcz19_11 : wc.cell? ⟨gb208, 11, none⟩ = some (.bool a0_11) := (blk_cell BK208.out 11).trans rfl
                      have hfz19_0 := blk_frozen BK208.out 0
                      have hfz19_1 := blk_frozen BK208.out 1
                      have hfz19_2 := blk_frozen BK208.out 2
                      have hfz19_3 := blk_frozen BK208.out 3
                      have hfz19_4 := blk_frozen BK208.out 4
                      have hfz19_5 := blk_frozen BK208.out 5
                      have hfz19_6 := blk_frozen BK208.out 6
                      have hfz19_7 := blk_frozen BK208.out 7
                      have hfz19_8 := blk_frozen BK208.out 8
                      have hfz19_9 := blk_frozen BK208.out 9
                      have hfz19_10 := blk_frozen BK208.out 10
                      have hfz19_11 := blk_frozen BK208.out 11
                      go_wp2
                      go_ret
                      exact ⟨by first | rfl | (simp [errW_none, errW_some] <;> rfl) | (simp [*, errW_none, errW_some] <;> rfl), by repeat (first | (with_reducible first | exact HB.out | apply below_alloc | apply pw_below_drewN | apply below_drew1 | refine below_set ?_ GE208.out) | exact HB.out)⟩
                    · replace c18 := Bool.eq_false_iff.mpr c18
                      subst c18
                      have H1 : (some false) = some r := by rw [if_neg (show ¬ (false = true) by decide)] at H; exact H
                      clear H
                      have H := H1
                      clear H1
                      obtain rfl := Option.some.inj H
                      have hcz20_0 : wc.cell? ⟨gb208, 0, none⟩ = some (.int .i64 a0_0) := (blk_cell BK208.out 0).trans rfl
                      have hcz20_1 : wc.cell? ⟨gb208, 1, none⟩ = some (.int .i64 a0_1) := (blk_cell BK208.out 1).trans rfl
                      have hcz20_2 : wc.cell? ⟨gb208, 2, none⟩ = some (.slice A0_2 l0_2.length c0_2) := (blk_cell BK208.out 2).trans rfl
                      have hcz20_3 : wc.cell? ⟨gb208, 3, none⟩ = some (.slice A0_3 l0_3.length c0_3) := (blk_cell BK208.out 3).trans rfl
                      have hcz20_4 : wc.cell? ⟨gb208, 4, none⟩ = some (.slice A0_4 l0_4.length c0_4) := (blk_cell BK208.out 4).trans rfl
                      have hcz20_5 : wc.cell? ⟨gb208, 5, none⟩ = some (.int .i64 a0_5) := (blk_cell BK208.out 5).trans rfl
                      have hcz20_6 : wc.cell? ⟨gb208, 6, none⟩ = some (.int .i64 a0_6) := (blk_cell BK208.out 6).trans rfl
                      have hcz20_7 : wc.cell? ⟨gb208, 7, none⟩ = some (.int .i64 a0_7) := (blk_cell BK208.out 7).trans rfl
                      have hcz20_8 : wc.cell? ⟨gb208, 8, none⟩ = some (.int .i64 a0_8) := (blk_cell BK208.out 8).trans rfl
                      have hcz20_9 : wc.cell? ⟨gb208, 9, none⟩ = some (.slice A0_9 l0_9.length c0_9) := (blk_cell BK208.out 9).trans rfl
                      have hcz20_10 : wc.cell? ⟨gb208, 10, none⟩ = some (.int .i64 a0_10) := (blk_cell BK208.out 10).trans rfl
                      have hcz20_11 : wc.cell? ⟨gb208, 11, none⟩ = some (.bool a0_11) := (blk_cell BK208.out 11).trans rfl
                      have hfz20_0 := blk_frozen BK208.out 0
                      have hfz20_1 := blk_frozen BK208.out 1
                      have hfz20_2 := blk_frozen BK208.out 2
                      have hfz20_3 := blk_frozen BK208.out 3
                      have hfz20_4 := blk_frozen BK208.out 4
                      have hfz20_5 := blk_frozen BK208.out 5
                      have hfz20_6 := blk_frozen BK208.out 6
                      have hfz20_7 := blk_frozen BK208.out 7
                      have hfz20_8 := blk_frozen BK208.out 8
                      have hfz20_9 := blk_frozen BK208.out 9
                      have hfz20_10 := blk_frozen BK208.out 10
                      have hfz20_11 := blk_frozen BK208.out 11
                      go_wp2
                      go_ret
                      exact ⟨by first | rfl | (simp [errW_none, errW_some] <;> rfl) | (simp [*, errW_none, errW_some] <;> rfl), by repeat (first | (with_reducible first | exact HB.out | apply below_alloc | apply pw_below_drewN | apply below_drew1 | refine below_set ?_ GE208.out) | exact HB.out)⟩
                  · replace c17 := Bool.eq_false_iff.mpr c17
                    subst c17
                    have H1 : (some false) = some r := by rw [if_neg (show ¬ (false = true) by decide)] at H; exact H
                    clear H
                    have H := H1
                    clear H1
                    obtain rfl := Option.some.inj H
                    have hcz21_0 : wc.cell? ⟨gb208, 0, none⟩ = some (.int .i64 a0_0) := (blk_cell BK208.out 0).trans rfl
                    have hcz21_1 : wc.cell? ⟨gb208, 1, none⟩ = some (.int .i64 a0_1) := (blk_cell BK208.out 1).trans rfl
                    have hcz21_2 : wc.cell? ⟨gb208, 2, none⟩ = some (.slice A0_2 l0_2.length c0_2) := (blk_cell BK208.out 2).trans rfl
                    have hcz21_3 : wc.cell? ⟨gb208, 3, none⟩ = some (.slice A0_3 l0_3.length c0_3) := (blk_cell BK208.out 3).trans rfl
                    have hcz21_4 : wc.cell? ⟨gb208, 4, none⟩ = some (.slice A0_4 l0_4.length c0_4) := (blk_cell BK208.out 4).trans rfl
                    have hcz21_5 : wc.cell? ⟨gb208, 5, none⟩ = some (.int .i64 a0_5) := (blk_cell BK208.out 5).trans rfl
                    have hcz21_6 : wc.cell? ⟨gb208, 6, none⟩ = some (.int .i64 a0_6) := (blk_cell BK208.out 6).trans rfl
                    have hcz21_7 : wc.cell? ⟨gb208, 7, none⟩ = some (.int .i64 a0_7) := (blk_cell BK208.out 7).trans rfl
                    have hcz21_8 : wc.cell? ⟨gb208, 8, none⟩ = some (.int .i64 a0_8) := (blk_cell BK208.out 8).trans rfl
                    have hcz21_9 : wc.cell? ⟨gb208, 9, none⟩ = some (.slice A0_9 l0_9.length c0_9) := (blk_cell BK208.out 9).trans rfl
                    have hcz21_10 : wc.cell? ⟨gb208, 10, none⟩ = some (.int .i64 a0_10) := (blk_cell BK208.out 10).trans rfl
                    have hcz21_11 : wc.cell? ⟨gb208, 11, none⟩ = some (.bool a0_11) := (blk_cell BK208.out 11).trans rfl
                    have hfz21_0 := blk_frozen BK208.out 0
                    have hfz21_1 := blk_frozen BK208.out 1
                    have hfz21_2 := blk_frozen BK208.out 2
                    have hfz21_3 := blk_frozen BK208.out 3
                    have hfz21_4 := blk_frozen BK208.out 4
                    have hfz21_5 := blk_frozen BK208.out 5
                    have hfz21_6 := blk_frozen BK208.out 6
                    have hfz21_7 := blk_frozen BK208.out 7
                    have hfz21_8 := blk_frozen BK208.out 8
                    have hfz21_9 := blk_frozen BK208.out 9
                    have hfz21_10 := blk_frozen BK208.out 10
                    have hfz21_11 := blk_frozen BK208.out 11
                    go_wp2
                    go_ret
                    exact ⟨by first | rfl | (simp [errW_none, errW_some] <;> rfl) | (simp [*, errW_none, errW_some] <;> rfl), by repeat (first | (with_reducible first | exact HB.out | apply below_alloc | apply pw_below_drewN | apply below_drew1 | refine below_set ?_ GE208.out) | exact HB.out)⟩
                · rw [if_neg c16] at H
                  have c16b0 : ((l0_3.length : Int) == 0) = false := beq_eq_false_iff_ne.mpr c16
                  have c16b1 : ((l0_3.length : Int) != 0) = true := bne_iff_ne.mpr c16
                  have c16b2 : ¬ (l0_3 = []) := fun h_ => c16 (by rw [h_]; rfl)
                  obtain rfl := Option.some.inj H
                  have hcz22_0 : wc.cell? ⟨gb208, 0, none⟩ = some (.int .i64 a0_0) := (blk_cell BK208.out 0).trans rfl
                  have hcz22_1 : wc.cell? ⟨gb208, 1, none⟩ = some (.int .i64 a0_1) := (blk_cell BK208.out 1).trans rfl
                  have hcz22_2 : wc.cell? ⟨gb208, 2, none⟩ = some (.slice A0_2 l0_2.length c0_2) := (blk_cell BK208.out 2).trans rfl
                  have hcz22_3 : wc.cell? ⟨gb208, 3, none⟩ = some (.slice A0_3 l0_3.length c0_3) := (blk_cell BK208.out 3).trans rfl
                  have hcz22_4 : wc.cell? ⟨gb208, 4, none⟩ = some (.slice A0_4 l0_4.length c0_4) := (blk_cell BK208.out 4).trans rfl
                  have hcz22_5 : wc.cell? ⟨gb208, 5, none⟩ = some (.int .i64 a0_5) := (blk_cell BK208.out 5).trans rfl
                  have hcz22_6 : wc.cell? ⟨gb208, 6, none⟩ = some (.int .i64 a0_6) := (blk_cell BK208.out 6).trans rfl
                  have hcz22_7 : wc.cell? ⟨gb208, 7, none⟩ = some (.int .i64 a0_7) := (blk_cell BK208.out 7).trans rfl
                  have hcz22_8 : wc.cell? ⟨gb208, 8, none⟩ = some (.int .i64 a0_8) := (blk_cell BK208.out 8).trans rfl
                  have hcz22_9 : wc.cell? ⟨gb208, 9, none⟩ = some (.slice A0_9 l0_9.length c0_9) := (blk_cell BK208.out 9).trans rfl
                  have hcz22_10 : wc.cell? ⟨gb208, 10, none⟩ = some (.int .i64 a0_10) := (blk_cell BK208.out 10).trans rfl
                  have hcz22_11 : wc.cell? ⟨gb208, 11, none⟩ = some (.bool a0_11) := (blk_cell BK208.out 11).trans rfl
                  have hfz22_0 := blk_frozen BK208.out 0
                  have hfz22_1 := blk_frozen BK208.out 1
                  have hfz22_2 := blk_frozen BK208.out 2
                  have hfz22_3 := blk_frozen BK208.out 3
                  have hfz22_4 := blk_frozen BK208.out 4
                  have hfz22_5 := blk_frozen BK208.out 5
                  have hfz22_6 := blk_frozen BK208.out 6
                  have hfz22_7 := blk_frozen BK208.out 7
                  have hfz22_8 := blk_frozen BK208.out 8
                  have hfz22_9 := blk_frozen BK208.out 9
                  have hfz22_10 := blk_frozen BK208.out 10
                  have hfz22_11 := blk_frozen BK208.out 11
                  go_wp2
                  go_ret
                  exact ⟨by first | rfl | (simp [errW_none, errW_some] <;> rfl) | (simp [*, errW_none, errW_some] <;> rfl), by repeat (first | (with_reducible first | exact HB.out | apply below_alloc | apply pw_below_drewN | apply below_drew1 | refine below_set ?_ GE208.out) | exact HB.out)⟩
              · rw [if_neg c15] at H
                have c15b0 : (a0_1 == 0) = false := beq_eq_false_iff_ne.mpr c15
                have c15b1 : (a0_1 != 0) = true := bne_iff_ne.mpr c15
                by_cases c23 : a0_1 = 1
                · rw [if_pos c23] at H
                  have c23b0 : (a0_1 == 1) = true := beq_iff_eq.mpr c23
                  have c23b1 : (a0_1 != 1) = false := bne_eq_false_iff_eq.mpr c23
                  clear c23
                  by_cases c24 : (l0_2.length : Int) = 0
                  · rw [if_pos c24] at H
                    have c24b0 : ((l0_2.length : Int) == 0) = true := beq_iff_eq.mpr c24
                    have c24b1 : ((l0_2.length : Int) != 0) = false := bne_eq_false_iff_eq.mpr c24
                    clear c24
                    by_cases c25 : x3_1 = true
                    · subst c25
                      have H1 : (if x4_6 = true then (some x5_10) else (some false)) = some r := by rw [if_pos rfl] at H; exact H
                      clear H
                      have H := H1
                      clear H1
                      by_cases c26 : x4_6 = true
                      · subst c26
                        have H1 : (some x5_10) = some r := by rw [if_pos rfl] at H; exact H
                        clear H
                        have H := H1
                        clear H1
                        obtain rfl := Option.some.inj H
                        have hcz27_0 : wc.cell? ⟨gb208, 0, none⟩ = some (.int .i64 a0_0) := (blk_cell BK208.out 0).trans rfl
                        have hcz27_1 : wc.cell? ⟨gb208, 1, none⟩ = some (.int .i64 a0_1) := (blk_cell BK208.out 1).trans rfl
                        have hcz27_2 : wc.cell? ⟨gb208, 2, none⟩ = some (.slice A0_2 l0_2.length c0_2) := (blk_cell BK208.out 2).trans rfl
                        have hcz27_3 : wc.cell? ⟨gb208, 3, none⟩ = some (.slice A0_3 l0_3.length c0_3) := (blk_cell BK208.out 3).trans rfl
                        have hcz27_4 : wc.cell? ⟨gb208, 4, none⟩ = some (.slice A0_4 l0_4.length c0_4) := (blk_cell BK208.out 4).trans rfl
                        have hcz27_5 : wc.cell? ⟨gb208, 5, none⟩ = some (.int .i64 a0_5) := (blk_cell BK208.out 5).trans rfl
                        have hcz27_6 : wc.cell? ⟨gb208, 6, none⟩ = some (.int .i64 a0_6) := (blk_cell BK208.out 6).trans rfl
                        have hcz27_7 : wc.cell? ⟨gb208, 7, none⟩ = some (.int .i64 a0_7) := (blk_cell BK208.out 7).trans rfl
                        have hcz27_8 : wc.cell? ⟨gb208, 8, none⟩ = some (.int .i64 a0_8) := (blk_cell BK208.out 8).trans rfl
                        have hcz27_9 : wc.cell? ⟨gb208, 9, none⟩ = some (.slice A0_9 l0_9.length c0_9) := (blk_cell BK208.out 9).trans rfl
                        have hcz27_10 : wc.cell? ⟨gb208, 10, none⟩ = some (.int .i64 a0_10) := (blk_cell BK208.out 10).trans rfl
                        have hcz27_11 : wc.cell? ⟨gb208, 11, none⟩ = some (.bool a0_11) := (blk_cell BK208.out 11).trans rfl
                        have hfz27_0 := blk_frozen BK208.out 0
                        have hfz27_1 := blk_frozen BK208.out 1
                        have hfz27_2 := blk_frozen BK208.out 2
                        have hfz27_3 := blk_frozen BK208.out 3
                        have hfz27_4 := blk_frozen BK208.out 4
                        have hfz27_5 := blk_frozen BK208.out 5
                        have hfz27_6 := blk_frozen BK208.out 6
                        have hfz27_7 := blk_frozen BK208.out 7
                        have hfz27_8 := blk_frozen BK208.out 8
                        have hfz27_9 := blk_frozen BK208.out 9
                        have hfz27_10 := blk_frozen BK208.out 10
                        have hfz27_11 := blk_frozen BK208.out 11
                        go_wp2
                        go_ret
                        exact ⟨by first | rfl | (simp [errW_none, errW_some] <;> rfl) | (simp [*, errW_none, errW_some] <;> rfl), by repeat (first | (with_reducible first | exact HB.out | apply below_alloc | apply pw_below_drewN | apply below_drew1 | refine below_set ?_ GE208.out) | exact HB.out)⟩
                      · replace c26 := Bool.eq_false_iff.mpr c26
                        subst c26
                        have H1 : (some false) = some r := by rw [if_neg (show ¬ (false = true) by decide)] at H; exact H
                        clear H
                        have H := H1
                        clear H1
                        obtain rfl := Option.some.inj H
                        have hcz28_0 : wc.cell? ⟨gb208, 0, none⟩ = some (.int .i64 a0_0) := (blk_cell BK208.out 0).trans rfl
                        have hcz28_1 : wc.cell? ⟨gb208, 1, none⟩ = some (.int .i64 a0_1) := (blk_cell BK208.out 1).trans rfl
                        have hcz28_2 : wc.cell? ⟨gb208, 2, none⟩ = some (.slice A0_2 l0_2.length c0_2) := (blk_cell BK208.out 2).trans rfl
                        have hcz28_3 : wc.cell? ⟨gb208, 3, none⟩ = some (.slice A0_3 l0_3.length c0_3) := (blk_cell BK208.out 3).trans rfl
                        have hcz28_4 : wc.cell? ⟨gb208, 4, none⟩ = some (.slice A0_4 l0_4.length c0_4) := (blk_cell BK208.out 4).trans rfl
                        have hcz28_5 : wc.cell? ⟨gb208, 5, none⟩ = some (.int .i64 a0_5) := (blk_cell BK208.out 5).trans rfl
                        have hcz28_6 : wc.cell? ⟨gb208, 6, none⟩ = some (.int .i64 a0_6) := (blk_cell BK208.out 6).trans rfl
                        have hcz28_7 : wc.cell? ⟨gb208, 7, none⟩ = some (.int .i64 a0_7) := (blk_cell BK208.out 7).trans rfl
                        have hcz28_8 : wc.cell? ⟨gb208, 8, none⟩ = some (.int .i64 a0_8) := (blk_cell BK208.out 8).trans rfl
                        have hcz28_9 : wc.cell? ⟨gb208, 9, none⟩ = some (.slice A0_9 l0_9.length c0_9) := (blk_cell BK208.out 9).trans rfl
                        have hcz28_10 : wc.cell? ⟨gb208, 10, none⟩ = some (.int .i64 a0_10) := (blk_cell BK208.out 10).trans rfl
                        have hcz28_11 : wc.cell? ⟨gb208, 11, none⟩ = some (.bool a0_11) := (blk_cell BK208.out 11).trans rfl
                        have hfz28_0 := blk_frozen BK208.out 0
                        have hfz28_1 := blk_frozen BK208.out 1
                        have hfz28_2 := blk_frozen BK208.out 2
                        have hfz28_3 := blk_frozen BK208.out 3
                        have hfz28_4 := blk_frozen BK208.out 4
                        have hfz28_5 := blk_frozen BK208.out 5
                        have hfz28_6 := blk_frozen BK208.out 6
                        have hfz28_7 := blk_frozen BK208.out 7
                        have hfz28_8 := blk_frozen BK208.out 8
                        have hfz28_9 := blk_frozen BK208.out 9
                        have hfz28_10 := blk_frozen BK208.out 10
                        have hfz28_11 := blk_frozen BK208.out 11
                        go_wp2
                        go_ret
                        exact ⟨by first | rfl | (simp [errW_none, errW_some] <;> rfl) | (simp [*, errW_none, errW_some] <;> rfl), by repeat (first | (with_reducible first | exact HB.out | apply below_alloc | apply pw_below_drewN | apply below_drew1 | refine below_set ?_ GE208.out) | exact HB.out)⟩
                    · replace c25 := Bool.eq_false_iff.mpr c25
                      subst c25
                      have H1 : (some false) = some r := by rw [if_neg (show ¬ (false = true) by decide)] at H; exact H
                      clear H
                      have H := H1
                      clear H1
                      obtain rfl := Option.some.inj H
                      have hcz29_0 : wc.cell? ⟨gb208, 0, none⟩ = some (.int .i64 a0_0) := (blk_cell BK208.out 0).trans rfl
                      have hcz29_1 : wc.cell? ⟨gb208, 1, none⟩ = some (.int .i64 a0_1) := (blk_cell BK208.out 1).trans rfl
                      have hcz29_2 : wc.cell? ⟨gb208, 2, none⟩ = some (.slice A0_2 l0_2.length c0_2) := (blk_cell BK208.out 2).trans rfl
                      have hcz29_3 : wc.cell? ⟨gb208, 3, none⟩ = some (.slice A0_3 l0_3.length c0_3) := (blk_cell BK208.out 3).trans rfl
                      have hcz29_4 : wc.cell? ⟨gb208, 4, none⟩ = some (.slice A0_4 l0_4.length c0_4) := (blk_cell BK208.out 4).trans rfl
                      have hcz29_5 : wc.cell? ⟨gb208, 5, none⟩ = some (.int .i64 a0_5) := (blk_cell BK208.out 5).trans rfl
                      have hcz29_6 : wc.cell? ⟨gb208, 6, none⟩ = some (.int .i64 a0_6) := (blk_cell BK208.out 6).trans rfl
                      have hcz29_7 : wc.cell? ⟨gb208, 7, none⟩ = some (.int .i64 a0_7) := (blk_cell BK208.out 7).trans rfl
                      have hcz29_8 : wc.cell? ⟨gb208, 8, none⟩ = some (.int .i64 a0_8) := (blk_cell BK208.out 8).trans rfl
                      have hcz29_9 : wc.cell? ⟨gb208, 9, none⟩ = some (.slice A0_9 l0_9.length c0_9) := (blk_cell BK208.out 9).trans rfl
                      have hcz29_10 : wc.cell? ⟨gb208, 10, none⟩ = some (.int .i64 a0_10) := (blk_cell BK208.out 10).trans rfl
                      have hcz29_11 : wc.cell? ⟨gb208, 11, none⟩ = some (.bool a0_11) := (blk_cell BK208.out 11).trans rfl
                      have hfz29_0 := blk_frozen BK208.out 0
                      have hfz29_1 := blk_frozen BK208.out 1
                      have hfz29_2 := blk_frozen BK208.out 2
                      have hfz29_3 := blk_frozen BK208.out 3
                      have hfz29_4 := blk_frozen BK208.out 4
                      have hfz29_5 := blk_frozen BK208.out 5
                      have hfz29_6 := blk_frozen BK208.out 6
                      have hfz29_7 := blk_frozen BK208.out 7
                      have hfz29_8 := blk_frozen BK208.out 8
                      have hfz29_9 := blk_frozen BK208.out 9
                      have hfz29_10 := blk_frozen BK208.out 10
                      have hfz29_11 := blk_frozen BK208.out 11
                      go_wp2
                      go_ret
                      exact ⟨by first | rfl | (simp [errW_none, errW_some] <;> rfl) | (simp [*, errW_none, errW_some] <;> rfl), by repeat (first | (with_reducible first | exact HB.out | apply below_alloc | apply pw_below_drewN | apply below_drew1 | refine below_set ?_ GE208.out) | exact HB.out)⟩
                  · rw [if_neg c24] at H
                    have c24b0 : ((l0_2.length : Int) == 0) = false := beq_eq_false_iff_ne.mpr c24
                    have c24b1 : ((l0_2.length : Int) != 0) = true := bne_iff_ne.mpr c24
                    have c24b2 : ¬ (l0_2 = []) := fun h_ => c24 (by rw [h_]; rfl)
                    obtain rfl := Option.some.inj H
                    have hcz30_0 : wc.cell? ⟨gb208, 0, none⟩ = some (.int .i64 a0_0) := (blk_cell BK208.out 0).trans rfl
                    have hcz30_1 : wc.cell? ⟨gb208, 1, none⟩ = some (.int .i64 a0_1) := (blk_cell BK208.out 1).trans rfl
                    have hcz30_2 : wc.cell? ⟨gb208, 2, none⟩ = some (.slice A0_2 l0_2.length c0_2) := (blk_cell BK208.out 2).trans rfl
                    have hcz30_3 : wc.cell? ⟨gb208, 3, none⟩ = some (.slice A0_3 l0_3.length c0_3) := (blk_cell BK208.out 3).trans rfl
                    have hcz30_4 : wc.cell? ⟨gb208, 4, none⟩ = some (.slice A0_4 l0_4.length c0_4) := (blk_cell BK208.out 4).trans rfl
                    have hcz30_5 : wc.cell? ⟨gb208, 5, none⟩ = some (.int .i64 a0_5) := (blk_cell BK208.out 5).trans rfl
                    have hcz30_6 : wc.cell? ⟨gb208, 6, none⟩ = some (.int .i64 a0_6) := (blk_cell BK208.out 6).trans rfl
                    have hcz30_7 : wc.cell? ⟨gb208, 7, none⟩ = some (.int .i64 a0_7) := (blk_cell BK208.out 7).trans rfl
                    have hcz30_8 : wc.cell? ⟨gb208, 8, none⟩ = some (.int .i64 a0_8) := (blk_cell BK208.out 8).trans rfl
                    have hcz30_9 : wc.cell? ⟨gb208, 9, none⟩ = some (.slice A0_9 l0_9.length c0_9) := (blk_cell BK208.out 9).trans rfl
                    have hcz30_10 : wc.cell? ⟨gb208, 10, none⟩ = some (.int .i64 a0_10) := (blk_cell BK208.out 10).trans rfl
                    have hcz30_11 : wc.cell? ⟨gb208, 11, none⟩ = some (.bool a0_11) := (blk_cell BK208.out 11).trans rfl
                    have hfz30_0 := blk_frozen BK208.out 0
                    have hfz30_1 := blk_frozen BK208.out 1
                    have hfz30_2 := blk_frozen BK208.out 2
                    have hfz30_3 := blk_frozen BK208.out 3
                    have hfz30_4 := blk_frozen BK208.out 4
                    have hfz30_5 := blk_frozen BK208.out 5
                    have hfz30_6 := blk_frozen BK208.out 6
                    have hfz30_7 := blk_frozen BK208.out 7
                    have hfz30_8 := blk_frozen BK208.out 8
                    have hfz30_9 := blk_frozen BK208.out 9
                    have hfz30_10 := blk_frozen BK208.out 10
                    have hfz30_11 := blk_frozen BK208.out 11
                    go_wp2
                    go_ret
                    exact ⟨by first | rfl | (simp [errW_none, errW_some] <;> rfl) | (simp [*, errW_none, errW_some] <;> rfl), by repeat (first | (with_reducible first | exact HB.out | apply below_alloc | apply pw_below_drewN | apply below_drew1 | refine below_set ?_ GE208.out) | exact HB.out)⟩
                · rw [if_neg c23] at H
                  have c23b0 : (a0_1 == 1) = false := beq_eq_false_iff_ne.mpr c23
                  have c23b1 : (a0_1 != 1) = true := bne_iff_ne.mpr c23
                  by_cases c31 : a0_1 = 2
                  · rw [if_pos c31] at H
                    have c31b0 : (a0_1 == 2) = true := beq_iff_eq.mpr c31
                    have c31b1 : (a0_1 != 2) = false := bne_eq_false_iff_eq.mpr c31
                    clear c31
                    by_cases c32 : (l0_2.length : Int) = 0
                    · rw [if_pos c32] at H
                      have c32b0 : ((l0_2.length : Int) == 0) = true := beq_iff_eq.mpr c32
                      have c32b1 : ((l0_2.length : Int) != 0) = false := bne_eq_false_iff_eq.mpr c32
                      clear c32
                      obtain rfl := Option.some.inj H
                      have hcz33_0 : wc.cell? ⟨gb208, 0, none⟩ = some (.int .i64 a0_0) := (blk_cell BK208.out 0).trans rfl
                      have hcz33_1 : wc.cell? ⟨gb208, 1, none⟩ = some (.int .i64 a0_1) := (blk_cell BK208.out 1).trans rfl
                      have hcz33_2 : wc.cell? ⟨gb208, 2, none⟩ = some (.slice A0_2 l0_2.length c0_2) := (blk_cell BK208.out 2).trans rfl
                      have hcz33_3 : wc.cell? ⟨gb208, 3, none⟩ = some (.slice A0_3 l0_3.length c0_3) := (blk_cell BK208.out 3).trans rfl
                      have hcz33_4 : wc.cell? ⟨gb208, 4, none⟩ = some (.slice A0_4 l0_4.length c0_4) := (blk_cell BK208.out 4).trans rfl
                      have hcz33_5 : wc.cell? ⟨gb208, 5, none⟩ = some (.int .i64 a0_5) := (blk_cell BK208.out 5).trans rfl
                      have hcz33_6 : wc.cell? ⟨gb208, 6, none⟩ = some (.int .i64 a0_6) := (blk_cell BK208.out 6).trans rfl
                      have hcz33_7 : wc.cell? ⟨gb208, 7, none⟩ = some (.int .i64 a0_7) := (blk_cell BK208.out 7).trans rfl
                      have hcz33_8 : wc.cell? ⟨gb208, 8, none⟩ = some (.int .i64 a0_8) := (blk_cell BK208.out 8).trans rfl
                      have hcz33_9 : wc.cell? ⟨gb208, 9, none⟩ = some (.slice A0_9 l0_9.length c0_9) := (blk_cell BK208.out 9).trans rfl
                      have hcz33_10 : wc.cell? ⟨gb208, 10, none⟩ = some (.int .i64 a0_10) := (blk_cell BK208.out 10).trans rfl
                      have hcz33_11 : wc.cell? ⟨gb208, 11, none⟩ = some (.bool a0_11) := (blk_cell BK208.out 11).trans rfl
                      have hfz33_0 := blk_frozen BK208.out 0
                      have hfz33_1 := blk_frozen BK208.out 1
                      have hfz33_2 := blk_frozen BK208.out 2
                      have hfz33_3 := blk_frozen BK208.out 3
                      have hfz33_4 := blk_frozen BK208.out 4
                      have hfz33_5 := blk_frozen BK208.out 5
                      have hfz33_6 := blk_frozen BK208.out 6
                      have hfz33_7 := blk_frozen BK208.out 7
                      have hfz33_8 := blk_frozen BK208.out 8
                      have hfz33_9 := blk_frozen BK208.out 9
                      have hfz33_10 := blk_frozen BK208.out 10
                      have hfz33_11 := blk_frozen BK208.out 11
                      go_wp2
                      go_ret
                      exact ⟨by first | rfl | (simp [errW_none, errW_some] <;> rfl) | (simp [*, errW_none, errW_some] <;> rfl), by repeat (first | (with_reducible first | exact HB.out | apply below_alloc | apply pw_below_drewN | apply below_drew1 | refine below_set ?_ GE208.out) | exact HB.out)⟩
                    · rw [if_neg c32] at H
                      have c32b0 : ((l0_2.length : Int) == 0) = false := beq_eq_false_iff_ne.mpr c32
                      have c32b1 : ((l0_2.length : Int) != 0) = true := bne_iff_ne.mpr c32
                      have c32b2 : ¬ (l0_2 = []) := fun h_ => c32 (by rw [h_]; rfl)
                      obtain rfl := Option.some.inj H
                      have hcz34_0 : wc.cell? ⟨gb208, 0, none⟩ = some (.int .i64 a0_0) := (blk_cell BK208.out 0).trans rfl
                      have hcz34_1 : wc.cell? ⟨gb208, 1, none⟩ = some (.int .i64 a0_1) := (blk_cell BK208.out 1).trans rfl
                      have hcz34_2 : wc.cell? ⟨gb208, 2, none⟩ = some (.slice A0_2 l0_2.length c0_2) := (blk_cell BK208.out 2).trans rfl
                      have hcz34_3 : wc.cell? ⟨gb208, 3, none⟩ = some (.slice A0_3 l0_3.length c0_3) := (blk_cell BK208.out 3).trans rfl
                      have hcz34_4 : wc.cell? ⟨gb208, 4, none⟩ = some (.slice A0_4 l0_4.length c0_4) := (blk_cell BK208.out 4).trans rfl
                      have hcz34_5 : wc.cell? ⟨gb208, 5, none⟩ = some (.int .i64 a0_5) := (blk_cell BK208.out 5).trans rfl
                      have hcz34_6 : wc.cell? ⟨gb208, 6, none⟩ = some (.int .i64 a0_6) := (blk_cell BK208.out 6).trans rfl
                      have hcz34_7 : wc.cell? ⟨gb208, 7, none⟩ = some (.int .i64 a0_7) := (blk_cell BK208.out 7).trans rfl
                      have hcz34_8 : wc.cell? ⟨gb208, 8, none⟩ = some (.int .i64 a0_8) := (blk_cell BK208.out 8).trans rfl
                      have hcz34_9 : wc.cell? ⟨gb208, 9, none⟩ = some (.slice A0_9 l0_9.length c0_9) := (blk_cell BK208.out 9).trans rfl
                      have hcz34_10 : wc.cell? ⟨gb208, 10, none⟩ = some (.int .i64 a0_10) := (blk_cell BK208.out 10).trans rfl
                      have hcz34_11 : wc.cell? ⟨gb208, 11, none⟩ = some (.bool a0_11) := (blk_cell BK208.out 11).trans rfl
                      have hfz34_0 := blk_frozen BK208.out 0
                      have hfz34_1 := blk_frozen BK208.out 1
                      have hfz34_2 := blk_frozen BK208.out 2
                      have hfz34_3 := blk_frozen BK208.out 3
                      have hfz34_4 := blk_frozen BK208.out 4
                      have hfz34_5 := blk_frozen BK208.out 5
                      have hfz34_6 := blk_frozen BK208.out 6
                      have hfz34_7 := blk_frozen BK208.out 7
                      have hfz34_8 := blk_frozen BK208.out 8
                      have hfz34_9 := blk_frozen BK208.out 9
                      have hfz34_10 := blk_frozen BK208.out 10
                      have hfz34_11 := blk_frozen BK208.out 11
                      go_wp2
                      go_ret
                      exact ⟨by first | rfl | (simp [errW_none, errW_some] <;> rfl) | (simp [*, errW_none, errW_some] <;> rfl), by repeat (first | (with_reducible first | exact HB.out | apply below_alloc | apply pw_below_drewN | apply below_drew1 | refine below_set ?_ GE208.out) | exact HB.out)⟩
                  · rw [if_neg c31] at H
                    have c31b0 : (a0_1 == 2) = false := beq_eq_false_iff_ne.mpr c31
                    have c31b1 : (a0_1 != 2) = true := bne_iff_ne.mpr c31
                    by_cases c35 : (l0_2.length : Int) = 0
                    · rw [if_pos c35] at H
                      have c35b0 : ((l0_2.length : Int) == 0) = true := beq_iff_eq.mpr c35
                      have c35b1 : ((l0_2.length : Int) != 0) = false := bne_eq_false_iff_eq.mpr c35
                      clear c35
                      obtain rfl := Option.some.inj H
                      have hcz36_0 : wc.cell? ⟨gb208, 0, none⟩ = some (.int .i64 a0_0) := (blk_cell BK208.out 0).trans rfl
                      have hcz36_1 : wc.cell? ⟨gb208, 1, none⟩ = some (.int .i64 a0_1) := (blk_cell BK208.out 1).trans rfl
                      have hcz36_2 : wc.cell? ⟨gb208, 2, none⟩ = some (.slice A0_2 l0_2.length c0_2) := (blk_cell BK208.out 2).trans rfl
                      have hcz36_3 : wc.cell? ⟨gb208, 3, none⟩ = some (.slice A0_3 l0_3.length c0_3) := (blk_cell BK208.out 3).trans rfl
                      have hcz36_4 : wc.cell? ⟨gb208, 4, none⟩ = some (.slice A0_4 l0_4.length c0_4) := (blk_cell BK208.out 4).trans rfl
                      have hcz36_5 : wc.cell? ⟨gb208, 5, none⟩ = some (.int .i64 a0_5) := (blk_cell BK208.out 5).trans rfl
                      have hcz36_6 : wc.cell? ⟨gb208, 6, none⟩ = some (.int .i64 a0_6) := (blk_cell BK208.out 6).trans rfl
                      have hcz36_7 : wc.cell? ⟨gb208, 7, none⟩ = some (.int .i64 a0_7) := (blk_cell BK208.out 7).trans rfl
                      have hcz36_8 : wc.cell? ⟨gb208, 8, none⟩ = some (.int .i64 a0_8) := (blk_cell BK208.out 8).trans rfl
                      have hcz36_9 : wc.cell? ⟨gb208, 9, none⟩ = some (.slice A0_9 l0_9.length c0_9) := (blk_cell BK208.out 9).trans rfl
                      have hcz36_10 : wc.cell? ⟨gb208, 10, none⟩ = some (.int .i64 a0_10) := (blk_cell BK208.out 10).trans rfl
                      have hcz36_11 : wc.cell? ⟨gb208, 11, none⟩ = some (.bool a0_11) := (blk_cell BK208.out 11).trans rfl
                      have hfz36_0 := blk_frozen BK208.out 0
                      have hfz36_1 := blk_frozen BK208.out 1
                      have hfz36_2 := blk_frozen BK208.out 2
                      have hfz36_3 := blk_frozen BK208.out 3
                      have hfz36_4 := blk_frozen BK208.out 4
                      have hfz36_5 := blk_frozen BK208.out 5
                      have hfz36_6 := blk_frozen BK208.out 6
                      have hfz36_7 := blk_frozen BK208.out 7
                      have hfz36_8 := blk_frozen BK208.out 8
                      have hfz36_9 := blk_frozen BK208.out 9
                      have hfz36_10 := blk_frozen BK208.out 10
                      have hfz36_11 := blk_frozen BK208.out 11
                      go_wp2
                      go_ret
                      exact ⟨by first | rfl | (simp [errW_none, errW_some] <;> rfl) | (simp [*, errW_none, errW_some] <;> rfl), by repeat (first | (with_reducible first | exact HB.out | apply below_alloc | apply pw_below_drewN | apply below_drew1 | refine below_set ?_ GE208.out) | exact HB.out)⟩
                    · rw [if_neg c35] at H
                      have c35b0 : ((l0_2.length : Int) == 0) = false := beq_eq_false_iff_ne.mpr c35
                      have c35b1 : ((l0_2.length : Int) != 0) = true := bne_iff_ne.mpr c35
                      have c35b2 : ¬ (l0_2 = []) := fun h_ => c35 (by rw [h_]; rfl)
                      obtain rfl := Option.some.inj H
                      have hcz37_0 : wc.cell? ⟨gb208, 0, none⟩ = some (.int .i64 a0_0) := (blk_cell BK208.out 0).trans rfl
                      have hcz37_1 : wc.cell? ⟨gb208, 1, none⟩ = some (.int .i64 a0_1) := (blk_cell BK208.out 1).trans rfl
                      have hcz37_2 : wc.cell? ⟨gb208, 2, none⟩ = some (.slice A0_2 l0_2.length c0_2) := (blk_cell BK208.out 2).trans rfl
                      have hcz37_3 : wc.cell? ⟨gb208, 3, none⟩ = some (.slice A0_3 l0_3.length c0_3) := (blk_cell BK208.out 3).trans rfl
                      have hcz37_4 : wc.cell? ⟨gb208, 4, none⟩ = some (.slice A0_4 l0_4.length c0_4) := (blk_cell BK208.out 4).trans rfl
                      have hcz37_5 : wc.cell? ⟨gb208, 5, none⟩ = some (.int .i64 a0_5) := (blk_cell BK208.out 5).trans rfl
                      have hcz37_6 : wc.cell? ⟨gb208, 6, none⟩ = some (.int .i64 a0_6) := (blk_cell BK208.out 6).trans rfl
                      have hcz37_7 : wc.cell? ⟨gb208, 7, none⟩ = some (.int .i64 a0_7) := (blk_cell BK208.out 7).trans rfl
                      have hcz37_8 : wc.cell? ⟨gb208, 8, none⟩ = some (.int .i64 a0_8) := (blk_cell BK208.out 8).trans rfl
                      have hcz37_9 : wc.cell? ⟨gb208, 9, none⟩ = some (.slice A0_9 l0_9.length c0_9) := (blk_cell BK208.out 9).trans rfl
                      have hcz37_10 : wc.cell? ⟨gb208, 10, none⟩ = some (.int .i64 a0_10) := (blk_cell BK208.out 10).trans rfl
                      have hcz37_11 : wc.cell? ⟨gb208, 11, none⟩ = some (.bool a0_11) := (blk_cell BK208.out 11).trans rfl
                      have hfz37_0 := blk_frozen BK208.out 0
                      have hfz37_1 := blk_frozen BK208.out 1
                      have hfz37_2 := blk_frozen BK208.out 2
                      have hfz37_3 := blk_frozen BK208.out 3
                      have hfz37_4 := blk_frozen BK208.out 4
                      have hfz37_5 := blk_frozen BK208.out 5
                      have hfz37_6 := blk_frozen BK208.out 6
                      have hfz37_7 := blk_frozen BK208.out 7
                      have hfz37_8 := blk_frozen BK208.out 8
                      have hfz37_9 := blk_frozen BK208.out 9
                      have hfz37_10 := blk_frozen BK208.out 10
                      have hfz37_11 := blk_frozen BK208.out 11
                      go_wp2
                      go_ret
                      exact ⟨by first | rfl | (simp [errW_none, errW_some] <;> rfl) | (simp [*, errW_none, errW_some] <;> rfl), by repeat (first | (with_reducible first | exact HB.out | apply below_alloc | apply pw_below_drewN | apply below_drew1 | refine below_set ?_ GE208.out) | exact HB.out)⟩
end Go.Proofs.YtphkionjjhhhlaaGreat.Q
end
