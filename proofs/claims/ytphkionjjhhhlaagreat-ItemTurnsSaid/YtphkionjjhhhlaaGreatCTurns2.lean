/- Lemmas and walks of this proof (part 2). -/
import Derived.Test.YtphkionjjhhhlaaGreatCTurns1
set_option linter.unusedVariables false
set_option linter.unusedSimpArgs false
section
namespace Go.Proofs.YtphkionjjhhhlaaGreat.Q
open Go.RowKit Go.Proofs.YtphkionjjhhhlaaGreatW.PrintWords Go.Proofs.YtphkionjjhhhlaaGreatW.PrintLast Go.Proofs.YtphkionjjhhhlaaGreatW.PrintMore
mutual
def dioramaref15_turned.l0 : Nat → Int → Bool → Int → Int → Int → Int → List (List Int) → Option (Int × Int × Int × (List (List Int)))
  | 0, _, _, _, _, _, _, _ => none
  | k + 1, x1, x2, x7, x160000, x160001, x160002, x160003 => if x7 < x1 then (dioramaref15_turned.l1 k x1 x2 x7 0 x160000 x160001 x160002 x160003 x160001 x160000 x160002 ([] : List (List Int))) else (if x2 = true then (dioramaref15_turned.l4 k 0 x160000 x160001 x160002 x160003 x160000 x160001 x160002 ([] : List (List Int))) else ((dioramaref00_CopyImage.f k x160000 x160001 x160002 x160003).bind fun bt170 => (some (bt170.1, bt170.2.1, bt170.2.2.1, bt170.2.2.2))))
def dioramaref15_turned.l1 : Nat → Int → Bool → Int → Int → Int → Int → Int → List (List Int) → Int → Int → Int → List (List Int) → Option (Int × Int × Int × (List (List Int)))
  | 0, _, _, _, _, _, _, _, _, _, _, _, _ => none
  | k + 1, x1, x2, x7, x9, x160000, x160001, x160002, x160003, x162000, x162001, x162002, x162003 => if x9 < (x160003.length : Int) then (dioramaref15_turned.l2 k x1 x2 x7 x9 ([] : List Int) 0 x160000 x160001 x160002 x160003 x162000 x162001 x162002 x162003) else (dioramaref15_turned.l0 k x1 x2 (wrap64 (x7 + 1)) x162000 x162001 x162002 x162003)
def dioramaref15_turned.l2 : Nat → Int → Bool → Int → Int → List Int → Int → Int → Int → Int → List (List Int) → Int → Int → Int → List (List Int) → Option (Int × Int × Int × (List (List Int)))
  | 0, _, _, _, _, _, _, _, _, _, _, _, _, _, _ => none
  | k + 1, x1, x2, x7, x9, x10, x11, x160000, x160001, x160002, x160003, x162000, x162001, x162002, x162003 => if x11 < x160000 then (dioramaref15_turned.l3 k x1 x2 x7 x9 x10 x11 (wrap64 (x160001 - 1)) x160000 x160001 x160002 x160003 x162000 x162001 x162002 x162003) else (if x162003.length < 5864062014805 then (dioramaref15_turned.l1 k x1 x2 x7 (wrap64 (x9 + 1)) x160000 x160001 x160002 x160003 x162000 x162001 x162002 (x162003 ++ [x10])) else (none))
def dioramaref15_turned.l3 : Nat → Int → Bool → Int → Int → List Int → Int → Int → Int → Int → Int → List (List Int) → Int → Int → Int → List (List Int) → Option (Int × Int × Int × (List (List Int)))
  | 0, _, _, _, _, _, _, _, _, _, _, _, _, _, _, _ => none
  | k + 1, x1, x2, x7, x9, x10, x11, x12, x160000, x160001, x160002, x160003, x162000, x162001, x162002, x162003 => if x12 ≥ 0 then (if 0 ≤ x9 then (if x9 < (x160003.length : Int) then (if 0 ≤ (wrap64 ((wrap64 (x12 * x160000)) + x11)) then (if (wrap64 ((wrap64 (x12 * x160000)) + x11)) < ((rd_L1 x160003 x9).length : Int) then (if x10.length < 17592186044416 then (dioramaref15_turned.l3 k x1 x2 x7 x9 (x10 ++ [rd (rd_L1 x160003 x9) (wrap64 ((wrap64 (x12 * x160000)) + x11))]) x11 (wrap64 (x12 - 1)) x160000 x160001 x160002 x160003 x162000 x162001 x162002 x162003) else (none)) else (none)) else (none)) else (none)) else (none)) else (dioramaref15_turned.l2 k x1 x2 x7 x9 x10 (wrap64 (x11 + 1)) x160000 x160001 x160002 x160003 x162000 x162001 x162002 x162003)
def dioramaref15_turned.l4 : Nat → Int → Int → Int → Int → List (List Int) → Int → Int → Int → List (List Int) → Option (Int × Int × Int × (List (List Int)))
  | 0, _, _, _, _, _, _, _, _, _ => none
  | k + 1, x14, x160000, x160001, x160002, x160003, x177000, x177001, x177002, x177003 => if x14 < (x160003.length : Int) then (dioramaref15_turned.l5 k x14 ([] : List Int) 0 x160000 x160001 x160002 x160003 x177000 x177001 x177002 x177003) else (some (x177000, x177001, x177002, x177003))
def dioramaref15_turned.l5 : Nat → Int → List Int → Int → Int → Int → Int → List (List Int) → Int → Int → Int → List (List Int) → Option (Int × Int × Int × (List (List Int)))
  | 0, _, _, _, _, _, _, _, _, _, _, _ => none
  | k + 1, x14, x15, x16, x160000, x160001, x160002, x160003, x177000, x177001, x177002, x177003 => if x16 < x160001 then (dioramaref15_turned.l6 k x14 x15 x16 (wrap64 (x160000 - 1)) x160000 x160001 x160002 x160003 x177000 x177001 x177002 x177003) else (if x177003.length < 5864062014805 then (dioramaref15_turned.l4 k (wrap64 (x14 + 1)) x160000 x160001 x160002 x160003 x177000 x177001 x177002 (x177003 ++ [x15])) else (none))
def dioramaref15_turned.l6 : Nat → Int → List Int → Int → Int → Int → Int → Int → List (List Int) → Int → Int → Int → List (List Int) → Option (Int × Int × Int × (List (List Int)))
  | 0, _, _, _, _, _, _, _, _, _, _, _, _ => none
  | k + 1, x14, x15, x16, x17, x160000, x160001, x160002, x160003, x177000, x177001, x177002, x177003 => if x17 ≥ 0 then (if 0 ≤ x14 then (if x14 < (x160003.length : Int) then (if 0 ≤ (wrap64 ((wrap64 (x16 * x160000)) + x17)) then (if (wrap64 ((wrap64 (x16 * x160000)) + x17)) < ((rd_L1 x160003 x14).length : Int) then (if x15.length < 17592186044416 then (dioramaref15_turned.l6 k x14 (x15 ++ [rd (rd_L1 x160003 x14) (wrap64 ((wrap64 (x16 * x160000)) + x17))]) x16 (wrap64 (x17 - 1)) x160000 x160001 x160002 x160003 x177000 x177001 x177002 x177003) else (none)) else (none)) else (none)) else (none)) else (none)) else (dioramaref15_turned.l5 k x14 x15 (wrap64 (x16 + 1)) x160000 x160001 x160002 x160003 x177000 x177001 x177002 x177003)
end
def dioramaref15_turned.f (k : Nat) (a0_0 : Int) (a0_1 : Int) (a0_2 : Int) (l0_3 : List (List Int)) (a1 : Int) (a2 : Bool) : Option (Int × Int × Int × (List (List Int))) := dioramaref15_turned.l0 k a1 a2 0 a0_0 a0_1 a0_2 l0_3
def dioramaref15_turned.T15 : Bool × List (List Nat × List Nat) := (true, [([], []), ([], []), ([1], [1]), ([], []), ([2, 3], [2, 3]), ([4], [4]), ([], []), ([], []), ([7], [7]), ([6, 8], [6, 8]), ([], []), ([9, 10], [9, 10]), ([5, 11], [5, 11]), ([12], [12]), ([13], [13]), ([0, 14], [0, 14]), ([15, 15, 0, 1, 2, 3, 4, 5, 6, 7, 8, 9, 10, 11, 12, 13, 14, 15], [0, 15])])
def dioramaref15_turned.B15 : List Nat := [0, 0, 2, 0, 14, 30, 0, 0, 128, 448, 0, 1984, 4094, 8190, 16382, 32767, 65535]
theorem dioramaref15_turned.tab15 : rtab .any (opsOf Tryz.f51 15) = dioramaref15_turned.T15 := by kernel_rfl
theorem dioramaref15_turned.bits15 : waitsOk dioramaref15_turned.T15.2 dioramaref15_turned.B15 = true := by kernel_rfl
def dioramaref15_turned.T31 : Bool × List (List Nat × List Nat) := (true, [([], []), ([], []), ([1], [1]), ([], []), ([2, 3], [2, 3]), ([4], [4]), ([], []), ([], []), ([7], [7]), ([6, 8], [6, 8]), ([], []), ([9, 10], [9, 10]), ([5, 11], [5, 11]), ([12], [12]), ([13], [13]), ([0, 14], [0, 14]), ([15, 15, 0, 1, 2, 3, 4, 5, 6, 7, 8, 9, 10, 11, 12, 13, 14, 15], [0, 15])])
def dioramaref15_turned.B31 : List Nat := [0, 0, 2, 0, 14, 30, 0, 0, 128, 448, 0, 1984, 4094, 8190, 16382, 32767, 65535]
theorem dioramaref15_turned.tab31 : rtab .any (opsOf Tryz.f51 31) = dioramaref15_turned.T31 := by kernel_rfl
theorem dioramaref15_turned.bits31 : waitsOk dioramaref15_turned.T31.2 dioramaref15_turned.B31 = true := by kernel_rfl
set_option maxHeartbeats 8000000 in
set_option maxRecDepth 100000 in
theorem dioramaref15_turned.calls (k : Nat) (a0_0 : Int) (a0_1 : Int) (a0_2 : Int) (P0_3_ : Nat → Prop) (A0_3 : Option Addr) (c0_3 : Nat) (l0_3 : List (List Int)) (a1 : Int) (a2 : Bool) (r1 : Int) (r2 : Int) (r3 : Int) (r4 : List (List Int)) (w : World) (hs0_3 : Kd.V (Kd.slice 3 (Kd.int .i64)) 39 w w.heap.size (fun k_ => P0_3_ k_) (.slice A0_3 l0_3.length c0_3) l0_3) (h : dioramaref15_turned.f k a0_0 a0_1 a0_2 l0_3 a1 a2 = some (r1, r2, r3, r4)) :
    Calls Tryz.prog 51 #[.agg #[.int .i64 a0_0, .int .i64 a0_1, .int .i64 a0_2, .slice A0_3 l0_3.length c0_3], .int .i64 a1, .bool a2] w fun e w' => ∃ v3_ : Value, e = .returned (.agg #[.int .i64 r1, .int .i64 r2, .int .i64 r3, v3_]) ∧ Kd.S (Kd.slice 3 (Kd.int .i64)) 39 w' w.heap.size (fun k_ => (w.heap.size ≤ k_)) v3_ r4 ∧ Below w.heap.size w w' := by
  have hu24 := Tryz.underlying24
  have HO0_3 := Aside0.mk (show Kd.V (Kd.slice 3 (Kd.int .i64)) 39 w w.heap.size (fun k_ => (P0_3_ k_ ∨ w.heap.size ≤ k_)) (.slice A0_3 l0_3.length c0_3) l0_3 from Kd.V_mono hs0_3 (fun k_ hk => .inl hk))
  have HB := Aside0.mk (Below.refl w.heap.size w)
  have H : (dioramaref15_turned.l0 k a1 a2 0 a0_0 a0_1 a0_2 l0_3) = some (r1, r2, r3, r4) := h
  clear h
  have H' := Aside0.mk H
  clear H
  go_enter Tryz.func51, Tryz.ntmps51
  go_wp2_with (first | ((with_reducible refine gate_dst (N := 3) rfl ?_); refine box_event ?hg (N := 3) ?hd (cs := #[.int .i64 a0_0, .int .i64 a0_1, .int .i64 a0_2, .slice A0_3 l0_3.length c0_3]) (t := 24) ?hr ?_; (case hd => rfl); (case hg => rfl); (case hr => first | (go_simp; done) | (go_simp; rfl)); intro gb159 hg w4 hbox hb; have n0_ := Aside0.mk (Kd.V_below (Kd.V_elderB (by (with_reducible repeat (first | apply Kd.V_alloc | apply Kd.V_drewN | apply Kd.V_drew)); exact HO0_3.out) gb159 (Nat.le_of_eq hg.symm)) hb); have n1_ := Aside0.mk (below_step (by repeat (first | (with_reducible first | exact HB.out | apply below_alloc | apply pw_below_drewN | apply below_drew1) | exact HB.out)) hb); have n2_ := Aside0.mk (hbox); have n3_ := Aside0.mk ((by rw [hg]; exact (below_size (by repeat (first | (with_reducible first | exact HB.out | apply below_alloc | apply pw_below_drewN | apply below_drew1) | exact HB.out))) : w.heap.size ≤ gb159)); have n4_ := Aside0.mk ((by rw [hg]; exact (below_size (by repeat (first | (with_reducible first | exact HB.out | apply below_alloc | apply pw_below_drewN | apply below_drew1) | exact HB.out))) : w.heap.size ≤ gb159)); clear HO0_3; clear HB; have HO0_3 := n0_; have HB := n1_; have BK159 := n2_; have GW159 := n3_; have GE159 := n4_; clear n0_ n1_ n2_ n3_ n4_; clear hb hbox hg) | ((with_reducible refine gate_dst (N := 6) rfl ?_); refine box_event ?hg (N := 6) ?hd (cs := #[.int .i64 0, .int .i64 0, .int .i64 0, .slice none 0 0]) (t := 24) ?hr ?_; (case hd => rfl); (case hg => rfl); (case hr => first | (go_simp; done) | (go_simp; rfl)); intro gb160 hg w5 hbox hb; have n0_ := Aside0.mk (Kd.V_below (Kd.V_elderB (by (with_reducible repeat (first | apply Kd.V_alloc | apply Kd.V_drewN | apply Kd.V_drew)); exact HO0_3.out) gb160 (Nat.le_of_eq hg.symm)) hb); have n1_ := Aside0.mk (blk_below (g := gb159) (o := .cells #[.int .i64 a0_0, .int .i64 a0_1, .int .i64 a0_2, .slice A0_3 l0_3.length c0_3] 24 (0, 0)) (by (with_reducible repeat (first | refine blk_drewN ?_ _ | refine blk_drew ?_ | refine blk_alloc ?_ _)); exact BK159.out) hb); have n2_ := Aside0.mk (below_step (by repeat (first | (with_reducible first | exact HB.out | apply below_alloc | apply pw_below_drewN | apply below_drew1 | refine below_set ?_ GE159.out) | exact HB.out)) hb); have n3_ := Aside0.mk (hbox); have n4_ := Aside0.mk ((by rw [hg]; exact (below_size (by repeat (first | (with_reducible first | exact HB.out | apply below_alloc | apply pw_below_drewN | apply below_drew1 | refine below_set ?_ GE159.out) | exact HB.out))) : w.heap.size ≤ gb160)); have n5_ := Aside0.mk ((by rw [hg]; exact (below_size (by repeat (first | (with_reducible first | exact HB.out | apply below_alloc | apply pw_below_drewN | apply below_drew1 | refine below_set ?_ GE159.out) | exact HB.out))) : w.heap.size ≤ gb160)); have n6_ := Aside0.mk ((by rw [hg]; exact Nat.ne_of_lt (blk_lt (g := gb159) (o := .cells #[.int .i64 a0_0, .int .i64 a0_1, .int .i64 a0_2, .slice A0_3 l0_3.length c0_3] 24 (0, 0)) (by (with_reducible repeat (first | refine blk_drewN ?_ _ | refine blk_drew ?_ | refine blk_alloc ?_ _)); exact BK159.out)) : gb159 ≠ gb160)); have n7_ := Aside0.mk ((by rw [hg]; exact Nat.ne_of_gt (blk_lt (g := gb159) (o := .cells #[.int .i64 a0_0, .int .i64 a0_1, .int .i64 a0_2, .slice A0_3 l0_3.length c0_3] 24 (0, 0)) (by (with_reducible repeat (first | refine blk_drewN ?_ _ | refine blk_drew ?_ | refine blk_alloc ?_ _)); exact BK159.out)) : gb160 ≠ gb159)); clear HO0_3; clear BK159; clear HB; have HO0_3 := n0_; have BK159 := n1_; have HB := n2_; have BK160 := n3_; have GW160 := n4_; have GE160 := n5_; have NB159_160 := n6_; have NB160_159 := n7_; clear n0_ n1_ n2_ n3_ n4_ n5_ n6_ n7_; clear hb hbox hg))
  go_loopg [7] k (fun kq v7 w' => ∃ (x7_1 : Int) (x160000_1 : Int) (x160001_1 : Int) (x160002_1 : Int) (x160003_1 : List (List Int)) (u160003 : Value), v7 = .int .i64 x7_1 ∧ Aside0 (dioramaref15_turned.l0 kq a1 a2 x7_1 x160000_1 x160001_1 x160002_1 x160003_1 = some (r1, r2, r3, r4)) ∧ Aside0 (kq ≤ k) ∧ Aside0 (Kd.V (Kd.slice 3 (Kd.int .i64)) 39 w' w.heap.size (fun k_ => (P0_3_ k_ ∨ w.heap.size ≤ k_) ∧ k_ ≠ gb159 ∧ k_ ≠ gb160) u160003 x160003_1) ∧ Aside0 (w'.heap[gb159]? = some (.cells #[.int .i64 x160000_1, .int .i64 x160001_1, .int .i64 x160002_1, u160003] 24 (0, 0))) ∧ Aside0 (w'.heap[gb160]? = some (.cells #[.int .i64 0, .int .i64 0, .int .i64 0, (.slice none 0 0)] 24 (0, 0))) ∧ Aside0 (Below w.heap.size w w'))
  case atStart => exact ⟨(0), (a0_0), (a0_1), (a0_2), (l0_3), (.slice A0_3 l0_3.length c0_3), (by first | rfl | (simp; done) | (simp [*]; done)), H', ⟨Nat.le_refl _⟩, ⟨by (with_reducible repeat (first | apply Kd.V_alloc | apply Kd.V_drewN | apply Kd.V_drew)); exact Kd.V_mono HO0_3.out (fun _ hk => ⟨hk.1.1, ⟨hk.1.2, hk.2⟩⟩)⟩, ⟨by (with_reducible repeat (first | refine blk_drewN ?_ _ | refine blk_drew ?_ | refine blk_alloc ?_ _)); exact BK159.out⟩, ⟨by (with_reducible repeat (first | refine blk_drewN ?_ _ | refine blk_drew ?_ | refine blk_alloc ?_ _)); exact BK160.out⟩, ⟨by repeat (first | (with_reducible first | exact HB.out | apply below_alloc | apply pw_below_drewN | apply below_drew1 | refine below_set ?_ GE159.out | refine below_set ?_ GE160.out) | exact HB.out)⟩⟩
  case round =>
    clear H'
    try clear p2
    try clear c5
    obtain ⟨x7_1, x160000_1, x160001_1, x160002_1, x160003_1, u160003, rfl, HA, HK1, HO_160003, BK159, BK160, HB⟩ := hrel
    cases gk with
    | zero => exact absurd HA.out (by simp [dioramaref15_turned.l0])
    | succ k1 =>
      have H := HA.out
      clear HA
      simp only [dioramaref15_turned.l0] at H
      by_cases c6 : x7_1 < a1
      · rw [if_pos c6] at H
        have c6b0 : decide (x7_1 < a1) = true := decide_eq_true c6
        clear c6
        have H' := Aside0.mk H
        clear H
        have hnb7 := NB159_160.out
        have hnc7 := NB160_159.out
        have hcz8_0 : wr.cell? ⟨gb159, 0, none⟩ = some (.int .i64 x160000_1) := (blk_cell BK159.out 0).trans rfl
        have hcz8_1 : wr.cell? ⟨gb159, 1, none⟩ = some (.int .i64 x160001_1) := (blk_cell BK159.out 1).trans rfl
        have hcz8_2 : wr.cell? ⟨gb159, 2, none⟩ = some (.int .i64 x160002_1) := (blk_cell BK159.out 2).trans rfl
        have hcz8_3 : wr.cell? ⟨gb159, 3, none⟩ = some (u160003) := (blk_cell BK159.out 3).trans rfl
        have hfz8_0 := blk_frozen BK159.out 0
        have hfz8_1 := blk_frozen BK159.out 1
        have hfz8_2 := blk_frozen BK159.out 2
        have hfz8_3 := blk_frozen BK159.out 3
        go_wp2_with (first | ((with_reducible refine gate_dst (N := 8) rfl ?_); refine box_event ?hg (N := 8) ?hd (cs := #[.int .i64 0, .int .i64 0, .int .i64 0, .slice none 0 0]) (t := 24) ?hr ?_; (case hd => rfl); (case hg => rfl); (case hr => first | (go_simp; done) | (go_simp; rfl)); intro gb161 hg w9 hbox hb; have n0_ := Aside0.mk (Kd.V_below (Kd.V_elderB (by (with_reducible repeat (first | apply Kd.V_alloc | apply Kd.V_drewN | apply Kd.V_drew)); exact HO_160003.out) gb161 (Nat.le_of_eq hg.symm)) hb); have n1_ := Aside0.mk (blk_below (g := gb159) (o := .cells #[.int .i64 x160000_1, .int .i64 x160001_1, .int .i64 x160002_1, u160003] 24 (0, 0)) (by (with_reducible repeat (first | refine blk_drewN ?_ _ | refine blk_drew ?_ | refine blk_alloc ?_ _)); exact BK159.out) hb); have n2_ := Aside0.mk (blk_below (g := gb160) (o := .cells #[.int .i64 0, .int .i64 0, .int .i64 0, .slice none 0 0] 24 (0, 0)) (by (with_reducible repeat (first | refine blk_drewN ?_ _ | refine blk_drew ?_ | refine blk_alloc ?_ _)); exact BK160.out) hb); have n3_ := Aside0.mk (below_step (by repeat (first | (with_reducible first | exact HB.out | apply below_alloc | apply pw_below_drewN | apply below_drew1 | refine below_set ?_ GE159.out | refine below_set ?_ GE160.out) | exact HB.out)) hb); have n4_ := Aside0.mk (hbox); have n5_ := Aside0.mk ((by rw [hg]; exact (below_size (by repeat (first | (with_reducible first | exact HB.out | apply below_alloc | apply pw_below_drewN | apply below_drew1 | refine below_set ?_ GE159.out | refine below_set ?_ GE160.out) | exact HB.out))) : w.heap.size ≤ gb161)); have n6_ := Aside0.mk ((by rw [hg]; exact (below_size (by repeat (first | (with_reducible first | exact HB.out | apply below_alloc | apply pw_below_drewN | apply below_drew1 | refine below_set ?_ GE159.out | refine below_set ?_ GE160.out) | exact HB.out))) : w.heap.size ≤ gb161)); have n7_ := Aside0.mk ((by rw [hg]; exact Nat.ne_of_lt (blk_lt (g := gb159) (o := .cells #[.int .i64 x160000_1, .int .i64 x160001_1, .int .i64 x160002_1, u160003] 24 (0, 0)) (by (with_reducible repeat (first | refine blk_drewN ?_ _ | refine blk_drew ?_ | refine blk_alloc ?_ _)); exact BK159.out)) : gb159 ≠ gb161)); have n8_ := Aside0.mk ((by rw [hg]; exact Nat.ne_of_gt (blk_lt (g := gb159) (o := .cells #[.int .i64 x160000_1, .int .i64 x160001_1, .int .i64 x160002_1, u160003] 24 (0, 0)) (by (with_reducible repeat (first | refine blk_drewN ?_ _ | refine blk_drew ?_ | refine blk_alloc ?_ _)); exact BK159.out)) : gb161 ≠ gb159)); have n9_ := Aside0.mk ((by rw [hg]; exact Nat.ne_of_lt (blk_lt (g := gb160) (o := .cells #[.int .i64 0, .int .i64 0, .int .i64 0, .slice none 0 0] 24 (0, 0)) (by (with_reducible repeat (first | refine blk_drewN ?_ _ | refine blk_drew ?_ | refine blk_alloc ?_ _)); exact BK160.out)) : gb160 ≠ gb161)); have n10_ := Aside0.mk ((by rw [hg]; exact Nat.ne_of_gt (blk_lt (g := gb160) (o := .cells #[.int .i64 0, .int .i64 0, .int .i64 0, .slice none 0 0] 24 (0, 0)) (by (with_reducible repeat (first | refine blk_drewN ?_ _ | refine blk_drew ?_ | refine blk_alloc ?_ _)); exact BK160.out)) : gb161 ≠ gb160)); clear HO_160003; clear BK159; clear BK160; clear HB; have HO_160003 := n0_; have BK159 := n1_; have BK160 := n2_; have HB := n3_; have BK161 := n4_; have GW161 := n5_; have GE161 := n6_; have NB159_161 := n7_; have NB161_159 := n8_; have NB160_161 := n9_; have NB161_160 := n10_; clear n0_ n1_ n2_ n3_ n4_ n5_ n6_ n7_ n8_ n9_ n10_; clear hb hbox hg; have hnb10 := NB161_159.out; have hnc10 := NB159_161.out; have hnb11 := NB161_160.out; have hnc11 := NB160_161.out; have hcz12_0 : w9.cell? ⟨gb161, 0, none⟩ = some (.int .i64 0) := (blk_cell BK161.out 0).trans rfl; have hcz12_1 : w9.cell? ⟨gb161, 1, none⟩ = some (.int .i64 0) := (blk_cell BK161.out 1).trans rfl; have hcz12_2 : w9.cell? ⟨gb161, 2, none⟩ = some (.int .i64 0) := (blk_cell BK161.out 2).trans rfl; have hcz12_3 : w9.cell? ⟨gb161, 3, none⟩ = some (.slice none 0 0) := (blk_cell BK161.out 3).trans rfl; have hfz12_0 := blk_frozen BK161.out 0; have hfz12_1 := blk_frozen BK161.out 1; have hfz12_2 := blk_frozen BK161.out 2; have hfz12_3 := blk_frozen BK161.out 3))
        go_loopg [9] k1 (fun kq v9 w' => ∃ (x9_2 : Int) (x162003_2 : List (List Int)) (u162003 : Value), v9 = .int .i64 x9_2 ∧ Aside0 (dioramaref15_turned.l1 kq a1 a2 x7_1 x9_2 x160000_1 x160001_1 x160002_1 x160003_1 x160001_1 x160000_1 x160002_1 x162003_2 = some (r1, r2, r3, r4)) ∧ Aside0 (kq ≤ k1) ∧ Aside0 (Kd.V (Kd.slice 3 (Kd.int .i64)) 39 w' w.heap.size (fun k_ => (P0_3_ k_ ∨ w.heap.size ≤ k_) ∧ some k_ ≠ (u162003 : Value).ownBlock ∧ k_ ≠ gb159 ∧ k_ ≠ gb160 ∧ k_ ≠ gb161) u160003 x160003_1) ∧ Aside0 (Kd.S (Kd.slice 3 (Kd.int .i64)) 39 w' w.heap.size (fun k_ => (w.heap.size ≤ k_)) u162003 x162003_2) ∧ Aside0 (w'.heap[gb159]? = some (.cells #[.int .i64 x160000_1, .int .i64 x160001_1, .int .i64 x160002_1, u160003] 24 (0, 0))) ∧ Aside0 (w'.heap[gb160]? = some (.cells #[.int .i64 0, .int .i64 0, .int .i64 0, (.slice none 0 0)] 24 (0, 0))) ∧ Aside0 (w'.heap[gb161]? = some (.cells #[.int .i64 x160001_1, .int .i64 x160000_1, .int .i64 x160002_1, u162003] 24 (0, 0))) ∧ Aside0 (Below w.heap.size w w'))
        case atStart => exact ⟨(0), (([] : List (List Int))), (.slice none 0 0), (by first | rfl | (simp; done) | (simp [*]; done)), H', ⟨Nat.le_refl _⟩, ⟨by (with_reducible repeat (first | apply Kd.V_alloc | apply Kd.V_drewN | apply Kd.V_drew)); exact Kd.V_mono (Kd.V_far (p := ⟨gb161, 3, none⟩) (Kd.V_far (p := ⟨gb161, 2, none⟩) (Kd.V_far (p := ⟨gb161, 1, none⟩) (Kd.V_far (p := ⟨gb161, 0, none⟩) (Kd.V_mono HO_160003.out (fun k_ hk => (⟨hk, hk.2⟩ : _ ∧ k_ ≠ gb161))) (fun _ hk => hk.2) (.int .i64 x160001_1)) (fun _ hk => hk.2) (.int .i64 x160000_1)) (fun _ hk => hk.2) (.int .i64 x160002_1)) (fun _ hk => hk.2) (.slice none 0 0)) (fun _ hk => ⟨hk.1.1.1, ⟨(by simp [Value.ownBlock]), ⟨hk.1.1.2.1, ⟨hk.1.1.2.2, hk.1.2⟩⟩⟩⟩)⟩, ⟨by first | exact Kd.S_nil _ _ _ _ _ | exact Kd.N_nil _ _ _ _ _ | exact Kd.V_nil _ _ _ _ _ | exact Kd.Q_nil _ _ _ _ _ | exact Kd.R_nil _ _ _ _ _⟩, ⟨by (with_reducible repeat (first | refine blk_drewN ?_ _ | refine blk_drew ?_ | refine blk_alloc ?_ _)); refine blk_far ?_ NB159_161.out _; (with_reducible repeat (first | refine blk_drewN ?_ _ | refine blk_drew ?_ | refine blk_alloc ?_ _)); refine blk_far ?_ NB159_161.out _; (with_reducible repeat (first | refine blk_drewN ?_ _ | refine blk_drew ?_ | refine blk_alloc ?_ _)); refine blk_far ?_ NB159_161.out _; (with_reducible repeat (first | refine blk_drewN ?_ _ | refine blk_drew ?_ | refine blk_alloc ?_ _)); refine blk_far ?_ NB159_161.out _; (with_reducible repeat (first | refine blk_drewN ?_ _ | refine blk_drew ?_ | refine blk_alloc ?_ _)); exact BK159.out⟩, ⟨by (with_reducible repeat (first | refine blk_drewN ?_ _ | refine blk_drew ?_ | refine blk_alloc ?_ _)); refine blk_far ?_ NB160_161.out _; (with_reducible repeat (first | refine blk_drewN ?_ _ | refine blk_drew ?_ | refine blk_alloc ?_ _)); refine blk_far ?_ NB160_161.out _; (with_reducible repeat (first | refine blk_drewN ?_ _ | refine blk_drew ?_ | refine blk_alloc ?_ _)); refine blk_far ?_ NB160_161.out _; (with_reducible repeat (first | refine blk_drewN ?_ _ | refine blk_drew ?_ | refine blk_alloc ?_ _)); refine blk_far ?_ NB160_161.out _; (with_reducible repeat (first | refine blk_drewN ?_ _ | refine blk_drew ?_ | refine blk_alloc ?_ _)); exact BK160.out⟩, ⟨by (with_reducible repeat (first | refine blk_drewN ?_ _ | refine blk_drew ?_ | refine blk_alloc ?_ _)); refine blk_put (cs := #[.int .i64 x160001_1, .int .i64 x160000_1, .int .i64 x160002_1, .slice none 0 0]) ?_ 3 _ rfl; (with_reducible repeat (first | refine blk_drewN ?_ _ | refine blk_drew ?_ | refine blk_alloc ?_ _)); refine blk_put (cs := #[.int .i64 x160001_1, .int .i64 x160000_1, .int .i64 0, .slice none 0 0]) ?_ 2 _ rfl; (with_reducible repeat (first | refine blk_drewN ?_ _ | refine blk_drew ?_ | refine blk_alloc ?_ _)); refine blk_put (cs := #[.int .i64 x160001_1, .int .i64 0, .int .i64 0, .slice none 0 0]) ?_ 1 _ rfl; (with_reducible repeat (first | refine blk_drewN ?_ _ | refine blk_drew ?_ | refine blk_alloc ?_ _)); refine blk_put (cs := #[.int .i64 0, .int .i64 0, .int .i64 0, .slice none 0 0]) ?_ 0 _ rfl; (with_reducible repeat (first | refine blk_drewN ?_ _ | refine blk_drew ?_ | refine blk_alloc ?_ _)); exact BK161.out⟩, ⟨by repeat (first | (with_reducible first | exact HB.out | apply below_alloc | apply pw_below_drewN | apply below_drew1 | refine below_set ?_ GE159.out | refine below_set ?_ GE160.out | refine below_set ?_ GE161.out) | exact HB.out)⟩⟩
        case round =>
          clear H'
          try clear c1
          try clear p2
          try clear c5
          try clear c6
          try clear c6b0
          try clear c7
          try clear c10
          try clear c11
          try clear hcz12_0
          try clear hcz12_1
          try clear hcz12_2
          try clear hcz12_3
          try clear hcz8_0
          try clear hcz8_1
          try clear hcz8_2
          try clear hcz8_3
          try clear hfz12_0
          try clear hfz12_1
          try clear hfz12_2
          try clear hfz12_3
          try clear hfz8_0
          try clear hfz8_1
          try clear hfz8_2
          try clear hfz8_3
          try clear p2
          obtain ⟨x9_2, x162003_2, u162003, rfl, HA, HK2, HO_160003, HO_162003, BK159, BK160, BK161, HB⟩ := hrel
          cases gk with
          | zero => exact absurd HA.out (by simp [dioramaref15_turned.l1])
          | succ k2 =>
            have H := HA.out
            clear HA
            simp only [dioramaref15_turned.l1] at H
            by_cases c13 : x9_2 < (x160003_1.length : Int)
            · rw [if_pos c13] at H
              have c13b0 : decide (x9_2 < (x160003_1.length : Int)) = true := decide_eq_true c13
              clear c13
              have H' := Aside0.mk H
              clear H
              have hnb14 := NB159_160.out
              have hnc14 := NB160_159.out
              have hnb15 := NB159_161.out
              have hnc15 := NB161_159.out
              have hcz16_0 : wr.cell? ⟨gb159, 0, none⟩ = some (.int .i64 x160000_1) := (blk_cell BK159.out 0).trans rfl
              have hcz16_1 : wr.cell? ⟨gb159, 1, none⟩ = some (.int .i64 x160001_1) := (blk_cell BK159.out 1).trans rfl
              have hcz16_2 : wr.cell? ⟨gb159, 2, none⟩ = some (.int .i64 x160002_1) := (blk_cell BK159.out 2).trans rfl
              have hcz16_3 : wr.cell? ⟨gb159, 3, none⟩ = some (u160003) := (blk_cell BK159.out 3).trans rfl
              have hfz16_0 := blk_frozen BK159.out 0
              have hfz16_1 := blk_frozen BK159.out 1
              have hfz16_2 := blk_frozen BK159.out 2
              have hfz16_3 := blk_frozen BK159.out 3
              obtain ⟨Ao17, co17, eo17⟩ := Kd.V_slice HO_160003.out
              subst eo17
              go_wp2
              go_loopg [10, 11] k2 (fun kq v10 v11 w' => ∃ (x10_3 : List Int) (x11_3 : Int), v11 = .int .i64 x11_3 ∧ Aside0 (dioramaref15_turned.l2 kq a1 a2 x7_1 x9_2 x10_3 x11_3 x160000_1 x160001_1 x160002_1 x160003_1 x160001_1 x160000_1 x160002_1 x162003_2 = some (r1, r2, r3, r4)) ∧ Aside0 (kq ≤ k2) ∧ Aside0 (Kd.R (Kd.int .i64) 3 w' w.heap.size (fun k_ => (w.heap.size ≤ k_)) v10 x10_3) ∧ Aside0 (Kd.V (Kd.slice 3 (Kd.int .i64)) 39 w' w.heap.size (fun k_ => (P0_3_ k_ ∨ w.heap.size ≤ k_) ∧ some k_ ≠ (v10 : Value).ownBlock ∧ some k_ ≠ (u162003 : Value).ownBlock ∧ k_ ≠ gb159 ∧ k_ ≠ gb160 ∧ k_ ≠ gb161) (.slice Ao17 x160003_1.length co17) x160003_1) ∧ Aside0 (Kd.S (Kd.slice 3 (Kd.int .i64)) 39 w' w.heap.size (fun k_ => (w.heap.size ≤ k_) ∧ some k_ ≠ (v10 : Value).ownBlock) u162003 x162003_2) ∧ Aside0 (w'.heap[gb159]? = some (.cells #[.int .i64 x160000_1, .int .i64 x160001_1, .int .i64 x160002_1, (.slice Ao17 x160003_1.length co17)] 24 (0, 0))) ∧ Aside0 (w'.heap[gb160]? = some (.cells #[.int .i64 0, .int .i64 0, .int .i64 0, (.slice none 0 0)] 24 (0, 0))) ∧ Aside0 (w'.heap[gb161]? = some (.cells #[.int .i64 x160001_1, .int .i64 x160000_1, .int .i64 x160002_1, u162003] 24 (0, 0))) ∧ Aside0 (Below w.heap.size w w'))
              case atStart => exact ⟨(([] : List Int)), (0), (by first | rfl | (simp; done) | (simp [*]; done)), H', ⟨Nat.le_refl _⟩, ⟨by first | exact Kd.R_nil _ _ _ _ _ | exact Kd.N_nil _ _ _ _ _ | exact Kd.V_nil _ _ _ _ _ | exact Kd.Q_nil _ _ _ _ _ | exact Kd.S_nil _ _ _ _ _⟩, ⟨by (with_reducible repeat (first | apply Kd.V_alloc | apply Kd.V_drewN | apply Kd.V_drew)); exact Kd.V_mono HO_160003.out (fun _ hk => ⟨hk.1, ⟨(by simp [Value.ownBlock]), ⟨hk.2.1, ⟨hk.2.2.1, ⟨hk.2.2.2.1, hk.2.2.2.2⟩⟩⟩⟩⟩)⟩, ⟨by (with_reducible repeat (first | apply Kd.S_alloc | apply Kd.S_drewN | apply Kd.S_drew)); exact Kd.S_mono HO_162003.out (fun _ hk => ⟨hk, (by simp [Value.ownBlock])⟩)⟩, ⟨by (with_reducible repeat (first | refine blk_drewN ?_ _ | refine blk_drew ?_ | refine blk_alloc ?_ _)); exact BK159.out⟩, ⟨by (with_reducible repeat (first | refine blk_drewN ?_ _ | refine blk_drew ?_ | refine blk_alloc ?_ _)); exact BK160.out⟩, ⟨by (with_reducible repeat (first | refine blk_drewN ?_ _ | refine blk_drew ?_ | refine blk_alloc ?_ _)); exact BK161.out⟩, ⟨by repeat (first | (with_reducible first | exact HB.out | apply below_alloc | apply pw_below_drewN | apply below_drew1 | refine below_set ?_ GE159.out | refine below_set ?_ GE160.out | refine below_set ?_ GE161.out) | exact HB.out)⟩⟩
              case round =>
                clear H'
                try clear c1
                try clear p2
                try clear c5
                try clear c6
                try clear c6b0
                try clear c7
                try clear c10
                try clear c11
                try clear c13
                try clear c13b0
                try clear c14
                try clear c15
                try clear hcz12_0
                try clear hcz12_1
                try clear hcz12_2
                try clear hcz12_3
                try clear hcz16_0
                try clear hcz16_1
                try clear hcz16_2
                try clear hcz16_3
                try clear hcz8_0
                try clear hcz8_1
                try clear hcz8_2
                try clear hcz8_3
                try clear hfz12_0
                try clear hfz12_1
                try clear hfz12_2
                try clear hfz12_3
                try clear hfz16_0
                try clear hfz16_1
                try clear hfz16_2
                try clear hfz16_3
                try clear hfz8_0
                try clear hfz8_1
                try clear hfz8_2
                try clear hfz8_3
                try clear p2
                obtain ⟨x10_3, x11_3, rfl, HA, HK3, HO_10, HO_160003, HO_162003, BK159, BK160, BK161, HB⟩ := hrel
                cases gk with
                | zero => exact absurd HA.out (by simp [dioramaref15_turned.l2])
                | succ k3 =>
                  have H := HA.out
                  clear HA
                  simp only [dioramaref15_turned.l2] at H
                  by_cases c18 : x11_3 < x160000_1
                  · rw [if_pos c18] at H
                    have c18b0 : decide (x11_3 < x160000_1) = true := decide_eq_true c18
                    clear c18
                    have H' := Aside0.mk H
                    clear H
                    have hnb19 := NB159_160.out
                    have hnc19 := NB160_159.out
                    have hnb20 := NB159_161.out
                    have hnc20 := NB161_159.out
                    have hcz21_0 : wr.cell? ⟨gb159, 0, none⟩ = some (.int .i64 x160000_1) := (blk_cell BK159.out 0).trans rfl
                    have hcz21_1 : wr.cell? ⟨gb159, 1, none⟩ = some (.int .i64 x160001_1) := (blk_cell BK159.out 1).trans rfl
                    have hcz21_2 : wr.cell? ⟨gb159, 2, none⟩ = some (.int .i64 x160002_1) := (blk_cell BK159.out 2).trans rfl
                    have hcz21_3 : wr.cell? ⟨gb159, 3, none⟩ = some (.slice Ao17 x160003_1.length co17) := (blk_cell BK159.out 3).trans rfl
                    have hfz21_0 := blk_frozen BK159.out 0
                    have hfz21_1 := blk_frozen BK159.out 1
                    have hfz21_2 := blk_frozen BK159.out 2
                    have hfz21_3 := blk_frozen BK159.out 3
                    go_wp2
                    go_loopg [10, 12] k3 (fun kq v10 v12 w' => ∃ (x10_4 : List Int) (x12_4 : Int), v12 = .int .i64 x12_4 ∧ Aside0 (dioramaref15_turned.l3 kq a1 a2 x7_1 x9_2 x10_4 x11_3 x12_4 x160000_1 x160001_1 x160002_1 x160003_1 x160001_1 x160000_1 x160002_1 x162003_2 = some (r1, r2, r3, r4)) ∧ Aside0 (kq ≤ k3) ∧ Aside0 (Kd.R (Kd.int .i64) 3 w' w.heap.size (fun k_ => (w.heap.size ≤ k_)) v10 x10_4) ∧ Aside0 (Kd.V (Kd.slice 3 (Kd.int .i64)) 39 w' w.heap.size (fun k_ => (P0_3_ k_ ∨ w.heap.size ≤ k_) ∧ some k_ ≠ (v10 : Value).ownBlock ∧ some k_ ≠ (u162003 : Value).ownBlock ∧ k_ ≠ gb159 ∧ k_ ≠ gb160 ∧ k_ ≠ gb161) (.slice Ao17 x160003_1.length co17) x160003_1) ∧ Aside0 (Kd.S (Kd.slice 3 (Kd.int .i64)) 39 w' w.heap.size (fun k_ => (w.heap.size ≤ k_) ∧ some k_ ≠ (v10 : Value).ownBlock) u162003 x162003_2) ∧ Aside0 (w'.heap[gb159]? = some (.cells #[.int .i64 x160000_1, .int .i64 x160001_1, .int .i64 x160002_1, (.slice Ao17 x160003_1.length co17)] 24 (0, 0))) ∧ Aside0 (w'.heap[gb160]? = some (.cells #[.int .i64 0, .int .i64 0, .int .i64 0, (.slice none 0 0)] 24 (0, 0))) ∧ Aside0 (w'.heap[gb161]? = some (.cells #[.int .i64 x160001_1, .int .i64 x160000_1, .int .i64 x160002_1, u162003] 24 (0, 0))) ∧ Aside0 (Below w.heap.size w w'))
                    case atStart => exact ⟨(x10_3), (wrap64 (x160001_1 - 1)), (by first | rfl | (simp; done) | (simp [*]; done)), H', ⟨Nat.le_refl _⟩, ⟨by (with_reducible repeat (first | apply Kd.R_alloc | apply Kd.R_drewN | apply Kd.R_drew)); exact HO_10.out⟩, ⟨by (with_reducible repeat (first | apply Kd.V_alloc | apply Kd.V_drewN | apply Kd.V_drew)); exact HO_160003.out⟩, ⟨by (with_reducible repeat (first | apply Kd.S_alloc | apply Kd.S_drewN | apply Kd.S_drew)); exact HO_162003.out⟩, ⟨by (with_reducible repeat (first | refine blk_drewN ?_ _ | refine blk_drew ?_ | refine blk_alloc ?_ _)); exact BK159.out⟩, ⟨by (with_reducible repeat (first | refine blk_drewN ?_ _ | refine blk_drew ?_ | refine blk_alloc ?_ _)); exact BK160.out⟩, ⟨by (with_reducible repeat (first | refine blk_drewN ?_ _ | refine blk_drew ?_ | refine blk_alloc ?_ _)); exact BK161.out⟩, ⟨by repeat (first | (with_reducible first | exact HB.out | apply below_alloc | apply pw_below_drewN | apply below_drew1 | refine below_set ?_ GE159.out | refine below_set ?_ GE160.out | refine below_set ?_ GE161.out) | exact HB.out)⟩⟩
                    case round =>
                      clear H'
                      try clear c1
                      try clear c2
                      try clear p2
                      try clear c5
                      try clear c6
                      try clear c6b0
                      try clear p6
                      try clear c7
                      try clear c10
                      try clear c11
                      try clear c13
                      try clear c13b0
                      try clear c14
                      try clear c15
                      try clear c18
                      try clear c18b0
                      try clear c19
                      try clear c20
                      try clear hcz12_0
                      try clear hcz12_1
                      try clear hcz12_2
                      try clear hcz12_3
                      try clear hcz16_0
                      try clear hcz16_1
                      try clear hcz16_2
                      try clear hcz16_3
                      try clear hcz21_0
                      try clear hcz21_1
                      try clear hcz21_2
                      try clear hcz21_3
                      try clear hcz8_0
                      try clear hcz8_1
                      try clear hcz8_2
                      try clear hcz8_3
                      try clear hfz12_0
                      try clear hfz12_1
                      try clear hfz12_2
                      try clear hfz12_3
                      try clear hfz16_0
                      try clear hfz16_1
                      try clear hfz16_2
                      try clear hfz16_3
                      try clear hfz21_0
                      try clear hfz21_1
                      try clear hfz21_2
                      try clear hfz21_3
                      try clear hfz8_0
                      try clear hfz8_1
                      try clear hfz8_2
                      try clear hfz8_3
                      try clear p2
                      obtain ⟨x10_4, x12_4, rfl, HA, HK4, HO_10, HO_160003, HO_162003, BK159, BK160, BK161, HB⟩ := hrel
                      cases gk with
                      | zero => exact absurd HA.out (by simp [dioramaref15_turned.l3])
                      | succ k4 =>
                        have H := HA.out
                        clear HA
                        simp only [dioramaref15_turned.l3] at H
                        by_cases c22 : x12_4 ≥ 0
                        · rw [if_pos c22] at H
                          have c22b0 : decide (0 ≤ x12_4) = true := decide_eq_true c22
                          clear c22
                          by_cases c23 : 0 ≤ x9_2
                          · rw [if_pos c23] at H
                            have c23b0 : decide (0 ≤ x9_2) = true := decide_eq_true c23
                            clear c23
                            by_cases c24 : x9_2 < (x160003_1.length : Int)
                            · rw [if_pos c24] at H
                              have c24b0 : decide (x9_2 < (x160003_1.length : Int)) = true := decide_eq_true c24
                              clear c24
                              obtain ⟨ji25, hji25⟩ : ∃ j_ : Int, (wrap64 ((wrap64 (x12_4 * x160000_1)) + x11_3)) = j_ := ⟨_, rfl⟩
                              replace H : (if 0 ≤ (ji25) then (if (ji25) < ((rd_L1 x160003_1 x9_2).length : Int) then (if x10_4.length < 17592186044416 then (dioramaref15_turned.l3 k4 a1 a2 x7_1 x9_2 (x10_4 ++ [rd (rd_L1 x160003_1 x9_2) (ji25)]) x11_3 (wrap64 (x12_4 - 1)) x160000_1 x160001_1 x160002_1 x160003_1 x160001_1 x160000_1 x160002_1 x162003_2) else (none)) else (none)) else (none)) = some (r1, r2, r3, r4) := by first | (rw [hji25] at H; exact H) | (simp only [hji25] at H ⊢; exact H)
                              have hji25w : (IntKind.i64.wrap ((wrap64 (x12_4 * x160000_1)) + x11_3)) = ji25 := (i64_w _).trans hji25
                              by_cases c26 : 0 ≤ (ji25)
                              · rw [if_pos c26] at H
                                have c26b0 : decide (0 ≤ (ji25)) = true := decide_eq_true c26
                                clear c26
                                by_cases c27 : (ji25) < ((rd_L1 x160003_1 x9_2).length : Int)
                                · rw [if_pos c27] at H
                                  have c27b0 : decide ((ji25) < ((rd_L1 x160003_1 x9_2).length : Int)) = true := decide_eq_true c27
                                  clear c27
                                  by_cases c28 : x10_4.length < 17592186044416
                                  · rw [if_pos c28] at H
                                    have LMc28 := Aside0.mk c28
                                    clear c28
                                    obtain ⟨y167, hy167⟩ : ∃ y_ : List Int, y_ = (x10_4 ++ [rd (rd_L1 x160003_1 x9_2) (ji25)]) := ⟨_, rfl⟩
                                    replace H : (dioramaref15_turned.l3 k4 a1 a2 x7_1 x9_2 y167 x11_3 (wrap64 (x12_4 - 1)) x160000_1 x160001_1 x160002_1 x160003_1 x160001_1 x160000_1 x160002_1 x162003_2) = some (r1, r2, r3, r4) := by first | (rw [hy167]; with_reducible exact H) | (have H2_ := (Option.bind_some _ _).symm.trans H; rw [hy167]; with_reducible exact H2_) | (have H2_ := (Option.bind_some _ _).symm.trans H; with_reducible exact H2_) | with_reducible exact H | (rw [hy167]; exact H) | exact H
                                    have Ny167 := Aside0.mk hy167
                                    clear hy167
                                    have H' := Aside0.mk H
                                    clear H
                                    try go_wp2
                                    have n0_ := Aside0.mk (Kd.R_drew HO_10.out)
                                    have n1_ := Aside0.mk (Kd.V_drew HO_160003.out)
                                    have n2_ := Aside0.mk (Kd.S_drew HO_162003.out)
                                    have n3_ := Aside0.mk (blk_drew BK159.out)
                                    have n4_ := Aside0.mk (blk_drew BK160.out)
                                    have n5_ := Aside0.mk (blk_drew BK161.out)
                                    have n6_ := Aside0.mk (below_drew1 HB.out)
                                    clear HO_10
                                    clear HO_160003
                                    clear HO_162003
                                    clear BK159
                                    clear BK160
                                    clear BK161
                                    clear HB
                                    have HO_10 := n0_
                                    have HO_160003 := n1_
                                    have HO_162003 := n2_
                                    have BK159 := n3_
                                    have BK160 := n4_
                                    have BK161 := n5_
                                    have HB := n6_
                                    clear n0_ n1_ n2_ n3_ n4_ n5_ n6_
                                    have p165 : 0 ≤ (x9_2 : Int) := of_decide_eq_true (by first | (with_reducible assumption) | assumption)
                                    have q165 : x9_2 < (x160003_1.length : Int) := of_decide_eq_true (by first | (with_reducible assumption) | assumption)
                                    obtain ⟨ad165, A165_0, c165_0, e165, hx165_0, hl165_0, hi165_0⟩ := at_L1 (Kd.V_reads' HO_160003.out).2.2 x9_2 p165 q165
                                    cases e165
                                    obtain ⟨ce165, hce165, hMe165, hcc165⟩ := Kd.V_get HO_160003.out [] x9_2 p165 (by first | exact q165 | exact of_decide_eq_true (by first | (with_reducible assumption) | assumption) | (have e_ := (Kd.V_reads' HO_160003.out).1; omega))
                                    obtain ⟨ua165_0, uc165_0, rfl, ul165_0, ge165_0⟩ := Kd.FK_slice_open hMe165
                                    have hv165_0 := hcc165 0 _ rfl
                                    rw [Nat.add_zero, show ((Kd.slice 3 (Kd.int .i64))).sz = 1 from rfl, Nat.mul_one] at hv165_0
                                    replace hv165_0 := Option.some.inj (hv165_0.symm.trans hx165_0)
                                    injection hv165_0 with hva_ hvn_ hvc_
                                    rw [hva_] at ge165_0
                                    rw [hvc_] at ul165_0
                                    have HL165_0 := Aside0.mk (show Kd.V (Kd.int .i64) 3 _ w.heap.size _ _ (rd_L1 x160003_1 x9_2) from Kd.V_mk ul165_0 ge165_0)
                                    clear hva_ hvn_ hvc_ ge165_0 ul165_0
                                    clear hcc165 hce165
                                    have HR165_0 := Aside0.mk hi165_0
                                    have HC165_0 := Aside0.mk hl165_0
                                    clear hi165_0 hl165_0
                                    replace p165 := eq_true p165
                                    replace q165 := eq_true q165
                                    have p166 : 0 ≤ ((ji25) : Int) := of_decide_eq_true (by first | (with_reducible assumption) | assumption)
                                    have q166 : (ji25) < ((rd_L1 x160003_1 x9_2).length : Int) := of_decide_eq_true (by first | (with_reducible assumption) | assumption)
                                    obtain ⟨ad166, e166, hx166_0⟩ := Kd.at_int (by repeat (first | (with_reducible exact HR165_0.out) | (with_reducible refine Kd.C_alloc ?_ _) | (with_reducible refine Kd.C_drewN ?_ _) | (with_reducible refine Kd.C_drew ?_) | exact HR165_0.out)) (ji25) p166 q166
                                    cases e166
                                    replace p166 := eq_true p166
                                    replace q166 := eq_true q166
                                    refine start_ (n := 17) (S := fun w' => w'.cell? ⟨gb159, 0, none⟩ = some (.int .i64 x160000_1) ∧ w'.cell? ⟨gb159, 1, none⟩ = some (.int .i64 x160001_1) ∧ w'.cell? ⟨gb159, 2, none⟩ = some (.int .i64 x160002_1) ∧ w'.cell? ⟨gb159, 3, none⟩ = some (.slice (some ad165) x160003_1.length co17) ∧ w'.cell? (ad165.add (x9_2).toNat) = some (.slice (some ad166) (rd_L1 x160003_1 x9_2).length c165_0) ∧ w'.cell? (ad166.add ((ji25)).toNat) = some (.int .i64 (rd (rd_L1 x160003_1 x9_2) (ji25)))) (ds := [14, 15]) #[false, false, false, false, false, false, false, false, false, false, false, false, false, false, false, false, false] (by kernel_rfl) rfl rfl ⟨(blk_cell BK159.out 0).trans rfl, (blk_cell BK159.out 1).trans rfl, (blk_cell BK159.out 2).trans rfl, (blk_cell BK159.out 3).trans rfl, hx165_0, hx166_0⟩ (fun hHeld => ?_); refine with_tabW dioramaref15_turned.tab15 dioramaref15_turned.bits15 (fun HT_ HW_ => ?_)
                                    generalize wr.drew = w29 at HO_10 HO_160003 HO_162003 BK159 BK160 BK161 HB HL165_0 HR165_0 hx165_0 hx166_0 hHeld ⊢
                                    refine pure_ (i := 0) (N := some 50) (v := ?_) (a' := ?_) #[true, false, false, false, false, false, false, false, false, false, false, false, false, false, false, false, false] rfl rfl (any_of HT_.out (by kernel_rfl)) (fun _ _ _ h => h) (Or.inl ⟨by rfl, ?_⟩) ?_ ?_
                                    rotate_left
                                    · intro w'
                                      go_simp
                                      with_reducible rfl
                                    rotate_left
                                    · simp only [Act.put, List.setIfInBounds_toArray, List.set_cons_zero, List.set_cons_succ, i64_w, i32_w]
                                      rfl
                                    refine pure_ (i := 1) (N := some 51) (v := ?_) (a' := ?_) #[true, true, false, false, false, false, false, false, false, false, false, false, false, false, false, false, false] rfl rfl (any_of HT_.out (by kernel_rfl)) (fun _ _ _ h => h) (Or.inl ⟨by rfl, ?_⟩) ?_ ?_
                                    rotate_left
                                    · intro w'
                                      go_simp
                                      with_reducible rfl
                                    rotate_left
                                    · simp only [Act.put, List.setIfInBounds_toArray, List.set_cons_zero, List.set_cons_succ, i64_w, i32_w]
                                      rfl
                                    refine pure_ (i := 3) (N := some 53) (v := ?_) (a' := ?_) #[true, true, false, true, false, false, false, false, false, false, false, false, false, false, false, false, false] rfl rfl (any_of HT_.out (by kernel_rfl)) (fun _ _ _ h => h) (Or.inl ⟨by rfl, ?_⟩) ?_ ?_
                                    rotate_left
                                    · intro w'
                                      go_simp
                                      with_reducible rfl
                                    rotate_left
                                    · simp only [Act.put, List.setIfInBounds_toArray, List.set_cons_zero, List.set_cons_succ, i64_w, i32_w]
                                      rfl
                                    refine pure_ (i := 6) (N := some 56) (v := ?_) (a' := ?_) #[true, true, false, true, false, false, true, false, false, false, false, false, false, false, false, false, false] rfl rfl (any_of HT_.out (by kernel_rfl)) (fun _ _ _ h => h) (Or.inl ⟨by rfl, ?_⟩) ?_ ?_
                                    rotate_left
                                    · intro w'
                                      go_simp
                                      with_reducible rfl
                                    rotate_left
                                    · simp only [Act.put, List.setIfInBounds_toArray, List.set_cons_zero, List.set_cons_succ, i64_w, i32_w]
                                      rfl
                                    refine pure_ (i := 7) (N := some 57) (v := ?_) (a' := ?_) #[true, true, false, true, false, false, true, true, false, false, false, false, false, false, false, false, false] rfl rfl (any_of HT_.out (by kernel_rfl)) (fun _ _ _ h => h) (Or.inl ⟨by rfl, ?_⟩) ?_ ?_
                                    rotate_left
                                    · intro w'
                                      go_simp
                                      with_reducible rfl
                                    rotate_left
                                    · simp only [Act.put, List.setIfInBounds_toArray, List.set_cons_zero, List.set_cons_succ, i64_w, i32_w]
                                      rfl
                                    refine pure_ (i := 10) (N := some 60) (v := ?_) (a' := ?_) #[true, true, false, true, false, false, true, true, false, false, true, false, false, false, false, false, false] rfl rfl (any_of HT_.out (by kernel_rfl)) (fun _ _ _ h => h) (Or.inl ⟨by rfl, ?_⟩) ?_ ?_
                                    rotate_left
                                    · intro w'
                                      go_simp
                                      with_reducible rfl
                                    rotate_left
                                    · simp only [Act.put, List.setIfInBounds_toArray, List.set_cons_zero, List.set_cons_succ, i64_w, i32_w]
                                      rfl
                                    refine take_ (i := 2) (N := some 52) (v := ?_) (a' := ?_) #[true, true, true, true, false, false, true, true, false, false, true, false, false, false, false, false, false] rfl rfl (take_ofW HT_.out HW_.out (by kernel_rfl)) (fun _ _ _ h => h) (Or.inl ⟨by rfl, ?_⟩) hHeld ?_ ?_
                                    rotate_left
                                    · rintro w' ⟨s0, s1, s2, s3, s4, s5⟩
                                      go_simp
                                      with_reducible rfl
                                    rotate_left
                                    · simp only [Act.put, List.setIfInBounds_toArray, List.set_cons_zero, List.set_cons_succ, i64_w, i32_w]
                                      rfl
                                    refine pure_ (i := 4) (N := some 54) (v := ?_) (a' := ?_) #[true, true, true, true, true, false, true, true, false, false, true, false, false, false, false, false, false] rfl rfl (any_of HT_.out (by kernel_rfl)) (fun _ _ _ h => h) (Or.inl ⟨by rfl, ?_⟩) ?_ ?_
                                    rotate_left
                                    · intro w'
                                      go_simp
                                      with_reducible rfl
                                    rotate_left
                                    · simp only [Act.put, List.setIfInBounds_toArray, List.set_cons_zero, List.set_cons_succ, i64_w, i32_w]
                                      rfl
                                    refine take_ (i := 5) (N := some 55) (v := ?_) (a' := ?_) #[true, true, true, true, true, true, true, true, false, false, true, false, false, false, false, false, false] rfl rfl (take_ofW HT_.out HW_.out (by kernel_rfl)) (fun _ _ _ h => h) (Or.inl ⟨by rfl, ?_⟩) hHeld ?_ ?_
                                    rotate_left
                                    · rintro w' ⟨s0, s1, s2, s3, s4, s5⟩
                                      go_simp
                                      with_reducible rfl
                                    rotate_left
                                    · simp only [Act.put, List.setIfInBounds_toArray, List.set_cons_zero, List.set_cons_succ, i64_w, i32_w]
                                      rfl
                                    refine take_ (i := 8) (N := some 58) (v := ?_) (a' := ?_) #[true, true, true, true, true, true, true, true, true, false, true, false, false, false, false, false, false] rfl rfl (take_ofW HT_.out HW_.out (by kernel_rfl)) (fun _ _ _ h => h) (Or.inl ⟨by rfl, ?_⟩) hHeld ?_ ?_
                                    rotate_left
                                    · rintro w' ⟨s0, s1, s2, s3, s4, s5⟩
                                      go_simp
                                      with_reducible rfl
                                    rotate_left
                                    · simp only [Act.put, List.setIfInBounds_toArray, List.set_cons_zero, List.set_cons_succ, i64_w, i32_w]
                                      rfl
                                    refine pure_ (i := 9) (N := some 59) (v := ?_) (a' := ?_) #[true, true, true, true, true, true, true, true, true, true, true, false, false, false, false, false, false] rfl rfl (any_of HT_.out (by kernel_rfl)) (fun _ _ _ h => h) (Or.inl ⟨by rfl, ?_⟩) ?_ ?_
                                    rotate_left
                                    · intro w'
                                      go_simp
                                      with_reducible rfl
                                    rotate_left
                                    · simp only [Act.put, List.setIfInBounds_toArray, List.set_cons_zero, List.set_cons_succ, i64_w, i32_w]
                                      rfl
                                    refine pure_ (i := 11) (N := some 61) (v := ?_) (a' := ?_) #[true, true, true, true, true, true, true, true, true, true, true, true, false, false, false, false, false] rfl rfl (any_of HT_.out (by kernel_rfl)) (fun _ _ _ h => h) (Or.inl ⟨by rfl, ?_⟩) ?_ ?_
                                    rotate_left
                                    · intro w'
                                      go_simp
                                      with_reducible rfl
                                    rotate_left
                                    · simp only [Act.put, List.setIfInBounds_toArray, List.set_cons_zero, List.set_cons_succ, i64_w, i32_w]
                                      rfl
                                    refine pure_ (i := 12) (N := some 62) (v := ?_) (a' := ?_) #[true, true, true, true, true, true, true, true, true, true, true, true, true, false, false, false, false] rfl rfl (any_of HT_.out (by kernel_rfl)) (fun _ _ _ h => h) (Or.inl ⟨by rfl, ?_⟩) ?_ ?_
                                    rotate_left
                                    · intro w'
                                      go_simp
                                      with_reducible rfl
                                    rotate_left
                                    · simp only [Act.put, List.setIfInBounds_toArray, List.set_cons_zero, List.set_cons_succ, i64_w, i32_w]
                                      rfl
                                    refine take_ (i := 13) (N := some 63) (v := ?_) (a' := ?_) #[true, true, true, true, true, true, true, true, true, true, true, true, true, true, false, false, false] rfl rfl (take_ofW HT_.out HW_.out (by kernel_rfl)) (fun _ _ _ h => h) (Or.inl ⟨by rfl, ?_⟩) hHeld ?_ ?_
                                    rotate_left
                                    · rintro w' ⟨s0, s1, s2, s3, s4, s5⟩
                                      go_simp
                                      with_reducible rfl
                                    rotate_left
                                    · simp only [Act.put, List.setIfInBounds_toArray, List.set_cons_zero, List.set_cons_succ, i64_w, i32_w]
                                      rfl
                                    refine last_ (i := 14) (N := some 64) #[true, true, true, true, true, true, true, true, true, true, true, true, true, true, true, false, false] rfl rfl (one_of HT_.out (by kernel_rfl)) (by decide) (fun K hK => ?_)
                                    refine value_ (w1 := ?_) (v := ?_) (by rfl) rfl ?_ ?_
                                    rotate_left 2
                                    · go_simp
                                      constructor
                                      · rfl
                                      · rfl
                                    refine hK.out _ _ ?_
                                    clear hK K
                                    refine norm_ (a' := ?_) ?_ ?_
                                    rotate_left
                                    · show Act.put _ (some 64) _ = _
                                      simp only [Act.put, List.setIfInBounds_toArray, List.set_cons_zero, List.set_cons_succ, i64_w, i32_w]
                                      rfl
                                    refine last_ (i := 15) (N := some 65) #[true, true, true, true, true, true, true, true, true, true, true, true, true, true, true, true, false] rfl rfl (one_of HT_.out (by kernel_rfl)) (by decide) (fun K hK => ?_)
                                    refine Kd.R_append_step (Kd.int .i64) (w0 := w) w.heap.size (by rfl) (.tmp 50) (.tmp 64) 39 3 (.int .i64 0) 8 rfl Tryz.underlying39 info3 rfl (by decide) (by omega) u10 x10_4 (rd (rd_L1 x160003_1 x9_2) (ji25)) [.int .i64 (rd (rd_L1 x160003_1 x9_2) (ji25))] (fun k_ => (w.heap.size ≤ k_)) (fun _ => False) rfl rfl ?aP (fun _ hk => hk.elim) ?aF ?aO ?aB ?aS ?aL ?_
                                    (case aP => exact rfl)
                                    (case aB => exact (by repeat (first | (with_reducible first | exact HB.out | apply below_alloc | apply pw_below_drewN | apply below_drew1 | refine below_set ?_ GE159.out | refine below_set ?_ GE160.out | refine below_set ?_ GE161.out) | exact HB.out)))
                                    (case aF => exact (fun k_ hk => (Nat.le_trans (below_size (by repeat (first | (with_reducible first | exact HB.out | apply below_alloc | apply pw_below_drewN | apply below_drew1 | refine below_set ?_ GE159.out | refine below_set ?_ GE160.out | refine below_set ?_ GE161.out) | exact HB.out))) hk)))
                                    (case aO => exact (by (with_reducible repeat (first | apply Kd.R_alloc | apply Kd.R_drewN | apply Kd.R_drew)); exact HO_10.out))
                                    (case aS => exact (below_size (by repeat (first | (with_reducible first | exact HB.out | apply below_alloc | apply pw_below_drewN | apply below_drew1 | refine below_set ?_ GE159.out | refine below_set ?_ GE160.out | refine below_set ?_ GE161.out) | exact HB.out))))
                                    (case aL => have := LMc28.out; omega)
                                    intro v168 w30 ho hb hg hat
                                    rw [← Ny167.out] at ho
                                    have n0_ := Aside0.mk (Kd.V_afterv (ok := (fun k_ => (P0_3_ k_ ∨ w.heap.size ≤ k_) ∧ some k_ ≠ (u162003 : Value).ownBlock ∧ k_ ≠ gb159 ∧ k_ ≠ gb160 ∧ k_ ≠ gb161)) (by (with_reducible repeat (first | apply Kd.V_alloc | apply Kd.V_drewN | apply Kd.V_drew)); exact Kd.V_mono HO_160003.out (fun _ hk => ⟨⟨hk.1, ⟨hk.2.2.1, ⟨hk.2.2.2.1, ⟨hk.2.2.2.2.1, hk.2.2.2.2.2⟩⟩⟩⟩, hk.2.1⟩)) hg hat)
                                    have n1_ := Aside0.mk (Kd.S_after (ok := (fun k_ => (w.heap.size ≤ k_))) (by (with_reducible repeat (first | apply Kd.S_alloc | apply Kd.S_drewN | apply Kd.S_drew)); exact HO_162003.out) hg hat)
                                    have n2_ := Aside0.mk (blk_grown (g := gb159) (o := .cells #[.int .i64 x160000_1, .int .i64 x160001_1, .int .i64 x160002_1, .slice (some ad165) x160003_1.length co17] 24 (0, 0)) (by (with_reducible repeat (first | refine blk_drewN ?_ _ | refine blk_drew ?_ | refine blk_alloc ?_ _)); exact BK159.out) hg (Kd.R_ne HO_10.out BK159.out (by decide)))
                                    have n3_ := Aside0.mk (blk_grown (g := gb160) (o := .cells #[.int .i64 0, .int .i64 0, .int .i64 0, .slice none 0 0] 24 (0, 0)) (by (with_reducible repeat (first | refine blk_drewN ?_ _ | refine blk_drew ?_ | refine blk_alloc ?_ _)); exact BK160.out) hg (Kd.R_ne HO_10.out BK160.out (by decide)))
                                    have n4_ := Aside0.mk (blk_grown (g := gb161) (o := .cells #[.int .i64 x160001_1, .int .i64 x160000_1, .int .i64 x160002_1, u162003] 24 (0, 0)) (by (with_reducible repeat (first | refine blk_drewN ?_ _ | refine blk_drew ?_ | refine blk_alloc ?_ _)); exact BK161.out) hg (Kd.R_ne HO_10.out BK161.out (by decide)))
                                    have n5_ := Aside0.mk (Kd.V_afterv (ok := (fun k_ => (P0_3_ k_ ∨ w.heap.size ≤ k_) ∧ some k_ ≠ (u162003 : Value).ownBlock ∧ k_ ≠ gb159 ∧ k_ ≠ gb160 ∧ k_ ≠ gb161)) (by (with_reducible repeat (first | apply Kd.V_alloc | apply Kd.V_drewN | apply Kd.V_drew)); exact Kd.V_mono HL165_0.out (fun _ hk => ⟨⟨hk.1, ⟨hk.2.2.1, ⟨hk.2.2.2.1, ⟨hk.2.2.2.2.1, hk.2.2.2.2.2⟩⟩⟩⟩, hk.2.1⟩)) hg hat)
                                    have n6_ := Aside0.mk (hb)
                                    have n7_ := Aside0.mk (ho)
                                    clear HO_160003
                                    clear HO_162003
                                    clear BK159
                                    clear BK160
                                    clear BK161
                                    clear HL165_0
                                    clear HB
                                    clear HO_10
                                    have HO_160003 := n0_
                                    have HO_162003 := n1_
                                    have BK159 := n2_
                                    have BK160 := n3_
                                    have BK161 := n4_
                                    have HL165_0 := n5_
                                    have HB := n6_
                                    have HO169 := n7_
                                    clear n0_ n1_ n2_ n3_ n4_ n5_ n6_ n7_
                                    clear ho hb hg hat
                                    refine hK.out _ _ ?_
                                    clear hK K
                                    refine norm_ (a' := ?_) ?_ ?_
                                    rotate_left
                                    · show Act.put _ (some 65) _ = _
                                      simp only [Act.put, List.setIfInBounds_toArray, List.set_cons_zero, List.set_cons_succ, i64_w, i32_w]
                                      rfl
                                    refine pure_ (i := 16) (N := some 10) (v := ?_) (a' := ?_) #[true, true, true, true, true, true, true, true, true, true, true, true, true, true, true, true, true] rfl rfl (any_of HT_.out (by kernel_rfl)) (fun _ _ _ h => h) (Or.inl ⟨by rfl, ?_⟩) ?_ ?_
                                    rotate_left
                                    · intro w'
                                      go_simp
                                      with_reducible rfl
                                    rotate_left
                                    · simp only [Act.put, List.setIfInBounds_toArray, List.set_cons_zero, List.set_cons_succ, i64_w, i32_w]
                                      rfl
                                    refine done_ (done_of HT_.out (by kernel_rfl)) ?_
                                    try go_wp2
                                    go_roundg k4
                                    case measure => have := HK1.out; have := HK2.out; have := HK3.out; have := HK4.out; omega
                                    case rel => exact ⟨(y167), (wrap64 (x12_4 - 1)), (by first | rfl | (simp; done) | (simp [*]; done)), H', ⟨by have := HK1.out; have := HK2.out; have := HK3.out; have := HK4.out; omega⟩, ⟨by (with_reducible repeat (first | apply Kd.R_alloc | apply Kd.R_drewN | apply Kd.R_drew)); exact HO169.out⟩, ⟨by (with_reducible repeat (first | apply Kd.V_alloc | apply Kd.V_drewN | apply Kd.V_drew)); exact Kd.V_mono HO_160003.out (fun _ hk => ⟨hk.1.1, ⟨hk.2, ⟨hk.1.2.1, ⟨hk.1.2.2.1, ⟨hk.1.2.2.2.1, hk.1.2.2.2.2⟩⟩⟩⟩⟩)⟩, ⟨by (with_reducible repeat (first | apply Kd.S_alloc | apply Kd.S_drewN | apply Kd.S_drew)); exact HO_162003.out⟩, ⟨by (with_reducible repeat (first | refine blk_drewN ?_ _ | refine blk_drew ?_ | refine blk_alloc ?_ _)); exact BK159.out⟩, ⟨by (with_reducible repeat (first | refine blk_drewN ?_ _ | refine blk_drew ?_ | refine blk_alloc ?_ _)); exact BK160.out⟩, ⟨by (with_reducible repeat (first | refine blk_drewN ?_ _ | refine blk_drew ?_ | refine blk_alloc ?_ _)); exact BK161.out⟩, ⟨by repeat (first | (with_reducible first | exact HB.out | apply below_alloc | apply pw_below_drewN | apply below_drew1 | refine below_set ?_ GE159.out | refine below_set ?_ GE160.out | refine below_set ?_ GE161.out) | exact HB.out)⟩⟩
                                  · rw [if_neg c28] at H
                                    exact absurd H (by simp)
                                · rw [if_neg c27] at H
                                  exact absurd H (by simp)
                              · rw [if_neg c26] at H
                                exact absurd H (by simp)
                            · rw [if_neg c24] at H
                              exact absurd H (by simp)
                          · rw [if_neg c23] at H
                            exact absurd H (by simp)
                        · rw [if_neg c22] at H
                          have c22b0 : decide (0 ≤ x12_4) = false := decide_eq_false c22
                          clear c22
                          have H' := Aside0.mk H
                          clear H
                          go_wp2
                          go_roundg k4
                          case measure => have := HK1.out; have := HK2.out; have := HK3.out; have := HK4.out; omega
                          case rel => exact ⟨(x10_4), (wrap64 (x11_3 + 1)), (by first | rfl | (simp; done) | (simp [*]; done)), H', ⟨by have := HK1.out; have := HK2.out; have := HK3.out; have := HK4.out; omega⟩, ⟨by (with_reducible repeat (first | apply Kd.R_alloc | apply Kd.R_drewN | apply Kd.R_drew)); exact HO_10.out⟩, ⟨by (with_reducible repeat (first | apply Kd.V_alloc | apply Kd.V_drewN | apply Kd.V_drew)); exact HO_160003.out⟩, ⟨by (with_reducible repeat (first | apply Kd.S_alloc | apply Kd.S_drewN | apply Kd.S_drew)); exact HO_162003.out⟩, ⟨by (with_reducible repeat (first | refine blk_drewN ?_ _ | refine blk_drew ?_ | refine blk_alloc ?_ _)); exact BK159.out⟩, ⟨by (with_reducible repeat (first | refine blk_drewN ?_ _ | refine blk_drew ?_ | refine blk_alloc ?_ _)); exact BK160.out⟩, ⟨by (with_reducible repeat (first | refine blk_drewN ?_ _ | refine blk_drew ?_ | refine blk_alloc ?_ _)); exact BK161.out⟩, ⟨by repeat (first | (with_reducible first | exact HB.out | apply below_alloc | apply pw_below_drewN | apply below_drew1 | refine below_set ?_ GE159.out | refine below_set ?_ GE160.out | refine below_set ?_ GE161.out) | exact HB.out)⟩⟩
                  · rw [if_neg c18] at H
                    have c18b0 : decide (x11_3 < x160000_1) = false := decide_eq_false c18
                    clear c18
                    by_cases c31 : x162003_2.length < 5864062014805
                    · rw [if_pos c31] at H
                      have LMc31 := Aside0.mk c31
                      clear c31
                      obtain ⟨y162, hy162⟩ : ∃ y_ : List (List Int), y_ = (x162003_2 ++ [x10_3]) := ⟨_, rfl⟩
                      replace H : (dioramaref15_turned.l1 k3 a1 a2 x7_1 (wrap64 (x9_2 + 1)) x160000_1 x160001_1 x160002_1 x160003_1 x160001_1 x160000_1 x160002_1 y162) = some (r1, r2, r3, r4) := by first | (rw [hy162]; with_reducible exact H) | (have H2_ := (Option.bind_some _ _).symm.trans H; rw [hy162]; with_reducible exact H2_) | (have H2_ := (Option.bind_some _ _).symm.trans H; with_reducible exact H2_) | with_reducible exact H | (rw [hy162]; exact H) | exact H
                      have Ny162 := Aside0.mk hy162
                      clear hy162
                      have H' := Aside0.mk H
                      clear H
                      have hnb32 := NB159_160.out
                      have hnc32 := NB160_159.out
                      have hnb33 := NB159_161.out
                      have hnc33 := NB161_159.out
                      have hcz34_0 : wr.cell? ⟨gb159, 0, none⟩ = some (.int .i64 x160000_1) := (blk_cell BK159.out 0).trans rfl
                      have hcz34_1 : wr.cell? ⟨gb159, 1, none⟩ = some (.int .i64 x160001_1) := (blk_cell BK159.out 1).trans rfl
                      have hcz34_2 : wr.cell? ⟨gb159, 2, none⟩ = some (.int .i64 x160002_1) := (blk_cell BK159.out 2).trans rfl
                      have hcz34_3 : wr.cell? ⟨gb159, 3, none⟩ = some (.slice Ao17 x160003_1.length co17) := (blk_cell BK159.out 3).trans rfl
                      have hfz34_0 := blk_frozen BK159.out 0
                      have hfz34_1 := blk_frozen BK159.out 1
                      have hfz34_2 := blk_frozen BK159.out 2
                      have hfz34_3 := blk_frozen BK159.out 3
                      have hnb35 := NB161_160.out
                      have hnc35 := NB160_161.out
                      have hcz36_0 : wr.cell? ⟨gb161, 0, none⟩ = some (.int .i64 x160001_1) := (blk_cell BK161.out 0).trans rfl
                      have hcz36_1 : wr.cell? ⟨gb161, 1, none⟩ = some (.int .i64 x160000_1) := (blk_cell BK161.out 1).trans rfl
                      have hcz36_2 : wr.cell? ⟨gb161, 2, none⟩ = some (.int .i64 x160002_1) := (blk_cell BK161.out 2).trans rfl
                      have hcz36_3 : wr.cell? ⟨gb161, 3, none⟩ = some (u162003) := (blk_cell BK161.out 3).trans rfl
                      have hfz36_0 := blk_frozen BK161.out 0
                      have hfz36_1 := blk_frozen BK161.out 1
                      have hfz36_2 := blk_frozen BK161.out 2
                      have hfz36_3 := blk_frozen BK161.out 3
                      obtain ⟨Ao38, co38, eo38⟩ := Kd.R_slice HO_10.out
                      subst eo38
                      go_wp2_with (first | ((with_reducible refine gate_builtin (b := .append) (xs := #[.tmp 67, .tmp 69]) rfl ?_); at_builtin; refine Kd.S_append (Kd.slice 3 (Kd.int .i64)) (w0 := w) w.heap.size rfl (.tmp 67) (.tmp 69) 22 39 (.slice none 0 0) 24 rfl Tryz.underlying22 info39 rfl (by decide) (by omega) u162003 x162003_2 x10_3 [.slice Ao38 x10_3.length co38] (fun k_ => (w.heap.size ≤ k_)) (fun k_ => some k_ = (.slice Ao38 x10_3.length co38 : Value).ownBlock) rfl rfl ?aP (fun k_ hk_ => ((Kd.R_mono (ok' := fun k_ => ((fun k_ => (w.heap.size ≤ k_))) k_ ∧ some k_ ≠ (u162003 : Value).ownBlock) (Kd.R_apart' (HO_10.out) (Kd.S_typed HO_162003.out) (by decide)) (fun k_ hk => ⟨hk.1, hk.2⟩))).1 k_ hk_.symm) ?aF ?aO ?aB ?aS ?aL ?_; (case aP => exact Kd.M_row (Kd.R_mono (Kd.R_tight rfl (Kd.R_mono (ok' := fun k_ => ((fun k_ => (w.heap.size ≤ k_))) k_ ∧ some k_ ≠ (u162003 : Value).ownBlock) (Kd.R_apart' (HO_10.out) (Kd.S_typed HO_162003.out) (by decide)) (fun k_ hk => ⟨hk.1, hk.2⟩))) (fun _ h_ => h_))); (case aB => exact (by repeat (first | (with_reducible first | exact HB.out | apply below_alloc | apply pw_below_drewN | apply below_drew1 | refine below_set ?_ GE159.out | refine below_set ?_ GE160.out | refine below_set ?_ GE161.out) | exact HB.out))); (case aF => exact (fun k_ hk => (Nat.le_trans (below_size (by repeat (first | (with_reducible first | exact HB.out | apply below_alloc | apply pw_below_drewN | apply below_drew1 | refine below_set ?_ GE159.out | refine below_set ?_ GE160.out | refine below_set ?_ GE161.out) | exact HB.out))) hk))); (case aO => exact (by (with_reducible repeat (first | apply Kd.S_alloc | apply Kd.S_drewN | apply Kd.S_drew)); exact Kd.S_mono HO_162003.out (fun k_ hk => ⟨hk.1, fun e_ => hk.2 e_⟩))); (case aS => exact (below_size (by repeat (first | (with_reducible first | exact HB.out | apply below_alloc | apply pw_below_drewN | apply below_drew1 | refine below_set ?_ GE159.out | refine below_set ?_ GE160.out | refine below_set ?_ GE161.out) | exact HB.out)))); (case aL => have := LMc31.out; omega); intro v163 w37 ho hb hg hat; rw [← Ny162.out] at ho; have n0_ := Aside0.mk (Kd.V_afterv (ok := (fun k_ => (P0_3_ k_ ∨ w.heap.size ≤ k_) ∧ some k_ ≠ (.slice Ao38 x10_3.length co38 : Value).ownBlock ∧ k_ ≠ gb159 ∧ k_ ≠ gb160 ∧ k_ ≠ gb161)) (by (with_reducible repeat (first | apply Kd.V_alloc | apply Kd.V_drewN | apply Kd.V_drew)); exact Kd.V_mono HO_160003.out (fun _ hk => ⟨⟨hk.1, ⟨hk.2.1, ⟨hk.2.2.2.1, ⟨hk.2.2.2.2.1, hk.2.2.2.2.2⟩⟩⟩⟩, hk.2.2.1⟩)) hg hat); have n1_ := Aside0.mk (blk_grown (g := gb159) (o := .cells #[.int .i64 x160000_1, .int .i64 x160001_1, .int .i64 x160002_1, .slice Ao17 x160003_1.length co17] 24 (0, 0)) (by (with_reducible repeat (first | refine blk_drewN ?_ _ | refine blk_drew ?_ | refine blk_alloc ?_ _)); exact BK159.out) hg (Kd.S_ne HO_162003.out BK159.out (by decide))); have n2_ := Aside0.mk (blk_grown (g := gb160) (o := .cells #[.int .i64 0, .int .i64 0, .int .i64 0, .slice none 0 0] 24 (0, 0)) (by (with_reducible repeat (first | refine blk_drewN ?_ _ | refine blk_drew ?_ | refine blk_alloc ?_ _)); exact BK160.out) hg (Kd.S_ne HO_162003.out BK160.out (by decide))); have n3_ := Aside0.mk (blk_grown (g := gb161) (o := .cells #[.int .i64 x160001_1, .int .i64 x160000_1, .int .i64 x160002_1, u162003] 24 (0, 0)) (by (with_reducible repeat (first | refine blk_drewN ?_ _ | refine blk_drew ?_ | refine blk_alloc ?_ _)); exact BK161.out) hg (Kd.S_ne HO_162003.out BK161.out (by decide))); have n4_ := Aside0.mk (hb); have n5_ := Aside0.mk (ho); clear HO_160003; clear BK159; clear BK160; clear BK161; clear HB; clear HO_162003; clear HO_10; have HO_160003 := n0_; have BK159 := n1_; have BK160 := n2_; have BK161 := n3_; have HB := n4_; have HO164 := n5_; clear n0_ n1_ n2_ n3_ n4_ n5_; clear ho hb hg hat; obtain ⟨Ao39, co39, eo39⟩ := Kd.S_slice HO164.out; subst eo39; have hcz40_0 : w37.cell? ⟨gb161, 0, none⟩ = some (.int .i64 x160001_1) := (blk_cell BK161.out 0).trans rfl; have hcz40_1 : w37.cell? ⟨gb161, 1, none⟩ = some (.int .i64 x160000_1) := (blk_cell BK161.out 1).trans rfl; have hcz40_2 : w37.cell? ⟨gb161, 2, none⟩ = some (.int .i64 x160002_1) := (blk_cell BK161.out 2).trans rfl; have hcz40_3 : w37.cell? ⟨gb161, 3, none⟩ = some (u162003) := (blk_cell BK161.out 3).trans rfl; have hfz40_0 := blk_frozen BK161.out 0; have hfz40_1 := blk_frozen BK161.out 1; have hfz40_2 := blk_frozen BK161.out 2; have hfz40_3 := blk_frozen BK161.out 3))
                      go_roundg k3
                      case measure => have := HK1.out; have := HK2.out; have := HK3.out; omega
                      case rel => exact ⟨(wrap64 (x9_2 + 1)), (y162), (.slice Ao39 y162.length co39), (by first | rfl | (simp; done) | (simp [*]; done)), H', ⟨by have := HK1.out; have := HK2.out; have := HK3.out; omega⟩, ⟨by (with_reducible repeat (first | apply Kd.V_alloc | apply Kd.V_drewN | apply Kd.V_drew)); exact Kd.V_mono (Kd.V_far (p := ⟨gb161, 3, none⟩) (Kd.V_mono HO_160003.out (fun k_ hk => (⟨hk, hk.1.2.2.2.2⟩ : _ ∧ k_ ≠ gb161))) (fun _ hk => hk.2) (.slice Ao39 y162.length co39)) (fun _ hk => ⟨hk.1.1.1, ⟨hk.1.2, ⟨hk.1.1.2.2.1, ⟨hk.1.1.2.2.2.1, hk.1.1.2.2.2.2⟩⟩⟩⟩)⟩, ⟨by (with_reducible repeat (first | apply Kd.S_alloc | apply Kd.S_drewN | apply Kd.S_drew)); exact Kd.S_mono (Kd.S_far (p := ⟨gb161, 3, none⟩) (Kd.S_types HO164.out BK161.out (by decide)) (fun _ hk => hk.2) (.slice Ao39 y162.length co39)) (fun _ hk => hk.1)⟩, ⟨by (with_reducible repeat (first | refine blk_drewN ?_ _ | refine blk_drew ?_ | refine blk_alloc ?_ _)); refine blk_far ?_ NB159_161.out _; (with_reducible repeat (first | refine blk_drewN ?_ _ | refine blk_drew ?_ | refine blk_alloc ?_ _)); exact BK159.out⟩, ⟨by (with_reducible repeat (first | refine blk_drewN ?_ _ | refine blk_drew ?_ | refine blk_alloc ?_ _)); refine blk_far ?_ NB160_161.out _; (with_reducible repeat (first | refine blk_drewN ?_ _ | refine blk_drew ?_ | refine blk_alloc ?_ _)); exact BK160.out⟩, ⟨by (with_reducible repeat (first | refine blk_drewN ?_ _ | refine blk_drew ?_ | refine blk_alloc ?_ _)); refine blk_put (cs := #[.int .i64 x160001_1, .int .i64 x160000_1, .int .i64 x160002_1, u162003]) ?_ 3 _ rfl; (with_reducible repeat (first | refine blk_drewN ?_ _ | refine blk_drew ?_ | refine blk_alloc ?_ _)); exact BK161.out⟩, ⟨by repeat (first | (with_reducible first | exact HB.out | apply below_alloc | apply pw_below_drewN | apply below_drew1 | refine below_set ?_ GE159.out | refine below_set ?_ GE160.out | refine below_set ?_ GE161.out) | exact HB.out)⟩⟩
                    · rw [if_neg c31] at H
                      exact absurd H (by simp)
            · rw [if_neg c13] at H
              have c13b0 : decide (x9_2 < (x160003_1.length : Int)) = false := decide_eq_false c13
              clear c13
              have H' := Aside0.mk H
              clear H
              have hnb41 := NB159_160.out
              have hnc41 := NB160_159.out
              have hnb42 := NB159_161.out
              have hnc42 := NB161_159.out
              have hcz43_0 : wr.cell? ⟨gb159, 0, none⟩ = some (.int .i64 x160000_1) := (blk_cell BK159.out 0).trans rfl
              have hcz43_1 : wr.cell? ⟨gb159, 1, none⟩ = some (.int .i64 x160001_1) := (blk_cell BK159.out 1).trans rfl
              have hcz43_2 : wr.cell? ⟨gb159, 2, none⟩ = some (.int .i64 x160002_1) := (blk_cell BK159.out 2).trans rfl
              have hcz43_3 : wr.cell? ⟨gb159, 3, none⟩ = some (u160003) := (blk_cell BK159.out 3).trans rfl
              have hfz43_0 := blk_frozen BK159.out 0
              have hfz43_1 := blk_frozen BK159.out 1
              have hfz43_2 := blk_frozen BK159.out 2
              have hfz43_3 := blk_frozen BK159.out 3
              obtain ⟨Ao44, co44, eo44⟩ := Kd.V_slice HO_160003.out
              subst eo44
              have hnb45 := NB161_160.out
              have hnc45 := NB160_161.out
              have hcz46_0 : wr.cell? ⟨gb161, 0, none⟩ = some (.int .i64 x160001_1) := (blk_cell BK161.out 0).trans rfl
              have hcz46_1 : wr.cell? ⟨gb161, 1, none⟩ = some (.int .i64 x160000_1) := (blk_cell BK161.out 1).trans rfl
              have hcz46_2 : wr.cell? ⟨gb161, 2, none⟩ = some (.int .i64 x160002_1) := (blk_cell BK161.out 2).trans rfl
              have hcz46_3 : wr.cell? ⟨gb161, 3, none⟩ = some (u162003) := (blk_cell BK161.out 3).trans rfl
              have hfz46_0 := blk_frozen BK161.out 0
              have hfz46_1 := blk_frozen BK161.out 1
              have hfz46_2 := blk_frozen BK161.out 2
              have hfz46_3 := blk_frozen BK161.out 3
              obtain ⟨Ao47, co47, eo47⟩ := Kd.S_slice HO_162003.out
              subst eo47
              go_wp2
              go_roundg k2
              case measure => have := HK1.out; have := HK2.out; omega
              case rel => exact ⟨(wrap64 (x7_1 + 1)), (x160001_1), (x160000_1), (x160002_1), (x162003_2), (.slice Ao47 x162003_2.length co47), (by first | rfl | (simp; done) | (simp [*]; done)), H', ⟨by have := HK1.out; have := HK2.out; omega⟩, ⟨Kd.V_mono (Kd.S_V (by (with_reducible repeat (first | apply Kd.S_alloc | apply Kd.S_drewN | apply Kd.S_drew)); exact Kd.S_mono (ok' := fun k_ => w.heap.size ≤ k_ ∧ (k_ ≠ gb159 ∧ k_ ≠ gb160)) (Kd.S_far (p := ⟨gb159, 3, none⟩) (Kd.S_far (p := ⟨gb159, 2, none⟩) (Kd.S_far (p := ⟨gb159, 1, none⟩) (Kd.S_far (p := ⟨gb159, 0, none⟩) (Kd.S_types (Kd.S_types (Kd.S_types HO_162003.out BK159.out (by decide)) BK160.out (by decide)) BK159.out (by decide)) (fun _ hk => hk.2) (.int .i64 x160001_1)) (fun _ hk => hk.2) (.int .i64 x160000_1)) (fun _ hk => hk.2) (.int .i64 x160002_1)) (fun _ hk => hk.2) (.slice Ao47 x162003_2.length co47)) (fun _ hk => ⟨hk.1.1.1, ⟨hk.1.1.2, hk.1.2⟩⟩))) (fun k_ hk => by first | exact ⟨(.inr (hk.1)), hk.2⟩ | exact (.inr (hk)))⟩, ⟨by (with_reducible repeat (first | refine blk_drewN ?_ _ | refine blk_drew ?_ | refine blk_alloc ?_ _)); refine blk_put (cs := #[.int .i64 x160001_1, .int .i64 x160000_1, .int .i64 x160002_1, .slice Ao44 x160003_1.length co44]) ?_ 3 _ rfl; (with_reducible repeat (first | refine blk_drewN ?_ _ | refine blk_drew ?_ | refine blk_alloc ?_ _)); refine blk_put (cs := #[.int .i64 x160001_1, .int .i64 x160000_1, .int .i64 x160002_1, .slice Ao44 x160003_1.length co44]) ?_ 2 _ rfl; (with_reducible repeat (first | refine blk_drewN ?_ _ | refine blk_drew ?_ | refine blk_alloc ?_ _)); refine blk_put (cs := #[.int .i64 x160001_1, .int .i64 x160001_1, .int .i64 x160002_1, .slice Ao44 x160003_1.length co44]) ?_ 1 _ rfl; (with_reducible repeat (first | refine blk_drewN ?_ _ | refine blk_drew ?_ | refine blk_alloc ?_ _)); refine blk_put (cs := #[.int .i64 x160000_1, .int .i64 x160001_1, .int .i64 x160002_1, .slice Ao44 x160003_1.length co44]) ?_ 0 _ rfl; (with_reducible repeat (first | refine blk_drewN ?_ _ | refine blk_drew ?_ | refine blk_alloc ?_ _)); exact BK159.out⟩, ⟨by (with_reducible repeat (first | refine blk_drewN ?_ _ | refine blk_drew ?_ | refine blk_alloc ?_ _)); refine blk_far ?_ NB160_159.out _; (with_reducible repeat (first | refine blk_drewN ?_ _ | refine blk_drew ?_ | refine blk_alloc ?_ _)); refine blk_far ?_ NB160_159.out _; (with_reducible repeat (first | refine blk_drewN ?_ _ | refine blk_drew ?_ | refine blk_alloc ?_ _)); refine blk_far ?_ NB160_159.out _; (with_reducible repeat (first | refine blk_drewN ?_ _ | refine blk_drew ?_ | refine blk_alloc ?_ _)); refine blk_far ?_ NB160_159.out _; (with_reducible repeat (first | refine blk_drewN ?_ _ | refine blk_drew ?_ | refine blk_alloc ?_ _)); exact BK160.out⟩, ⟨by repeat (first | (with_reducible first | exact HB.out | apply below_alloc | apply pw_below_drewN | apply below_drew1 | refine below_set ?_ GE159.out | refine below_set ?_ GE160.out | refine below_set ?_ GE161.out) | exact HB.out)⟩⟩
      · rw [if_neg c6] at H
        have c6b0 : decide (x7_1 < a1) = false := decide_eq_false c6
        clear c6
        by_cases c48 : a2 = true
        · subst c48
          have H1 : (dioramaref15_turned.l4 k1 0 x160000_1 x160001_1 x160002_1 x160003_1 x160000_1 x160001_1 x160002_1 ([] : List (List Int))) = some (r1, r2, r3, r4) := by rw [if_pos rfl] at H; exact H
          clear H
          have H := H1
          clear H1
          have H' := Aside0.mk H
          clear H
          have hnb49 := NB159_160.out
          have hnc49 := NB160_159.out
          have hcz50_0 : wr.cell? ⟨gb159, 0, none⟩ = some (.int .i64 x160000_1) := (blk_cell BK159.out 0).trans rfl
          have hcz50_1 : wr.cell? ⟨gb159, 1, none⟩ = some (.int .i64 x160001_1) := (blk_cell BK159.out 1).trans rfl
          have hcz50_2 : wr.cell? ⟨gb159, 2, none⟩ = some (.int .i64 x160002_1) := (blk_cell BK159.out 2).trans rfl
          have hcz50_3 : wr.cell? ⟨gb159, 3, none⟩ = some (u160003) := (blk_cell BK159.out 3).trans rfl
          have hfz50_0 := blk_frozen BK159.out 0
          have hfz50_1 := blk_frozen BK159.out 1
          have hfz50_2 := blk_frozen BK159.out 2
          have hfz50_3 := blk_frozen BK159.out 3
          go_wp2_with (first | ((with_reducible refine gate_dst (N := 13) rfl ?_); refine box_event ?hg (N := 13) ?hd (cs := #[.int .i64 0, .int .i64 0, .int .i64 0, .slice none 0 0]) (t := 24) ?hr ?_; (case hd => rfl); (case hg => rfl); (case hr => first | (go_simp; done) | (go_simp; rfl)); intro gb176 hg w51 hbox hb; have n0_ := Aside0.mk (Kd.V_below (Kd.V_elderB (by (with_reducible repeat (first | apply Kd.V_alloc | apply Kd.V_drewN | apply Kd.V_drew)); exact HO_160003.out) gb176 (Nat.le_of_eq hg.symm)) hb); have n1_ := Aside0.mk (blk_below (g := gb159) (o := .cells #[.int .i64 x160000_1, .int .i64 x160001_1, .int .i64 x160002_1, u160003] 24 (0, 0)) (by (with_reducible repeat (first | refine blk_drewN ?_ _ | refine blk_drew ?_ | refine blk_alloc ?_ _)); exact BK159.out) hb); have n2_ := Aside0.mk (blk_below (g := gb160) (o := .cells #[.int .i64 0, .int .i64 0, .int .i64 0, .slice none 0 0] 24 (0, 0)) (by (with_reducible repeat (first | refine blk_drewN ?_ _ | refine blk_drew ?_ | refine blk_alloc ?_ _)); exact BK160.out) hb); have n3_ := Aside0.mk (below_step (by repeat (first | (with_reducible first | exact HB.out | apply below_alloc | apply pw_below_drewN | apply below_drew1 | refine below_set ?_ GE159.out | refine below_set ?_ GE160.out) | exact HB.out)) hb); have n4_ := Aside0.mk (hbox); have n5_ := Aside0.mk ((by rw [hg]; exact (below_size (by repeat (first | (with_reducible first | exact HB.out | apply below_alloc | apply pw_below_drewN | apply below_drew1 | refine below_set ?_ GE159.out | refine below_set ?_ GE160.out) | exact HB.out))) : w.heap.size ≤ gb176)); have n6_ := Aside0.mk ((by rw [hg]; exact (below_size (by repeat (first | (with_reducible first | exact HB.out | apply below_alloc | apply pw_below_drewN | apply below_drew1 | refine below_set ?_ GE159.out | refine below_set ?_ GE160.out) | exact HB.out))) : w.heap.size ≤ gb176)); have n7_ := Aside0.mk ((by rw [hg]; exact Nat.ne_of_lt (blk_lt (g := gb159) (o := .cells #[.int .i64 x160000_1, .int .i64 x160001_1, .int .i64 x160002_1, u160003] 24 (0, 0)) (by (with_reducible repeat (first | refine blk_drewN ?_ _ | refine blk_drew ?_ | refine blk_alloc ?_ _)); exact BK159.out)) : gb159 ≠ gb176)); have n8_ := Aside0.mk ((by rw [hg]; exact Nat.ne_of_gt (blk_lt (g := gb159) (o := .cells #[.int .i64 x160000_1, .int .i64 x160001_1, .int .i64 x160002_1, u160003] 24 (0, 0)) (by (with_reducible repeat (first | refine blk_drewN ?_ _ | refine blk_drew ?_ | refine blk_alloc ?_ _)); exact BK159.out)) : gb176 ≠ gb159)); have n9_ := Aside0.mk ((by rw [hg]; exact Nat.ne_of_lt (blk_lt (g := gb160) (o := .cells #[.int .i64 0, .int .i64 0, .int .i64 0, .slice none 0 0] 24 (0, 0)) (by (with_reducible repeat (first | refine blk_drewN ?_ _ | refine blk_drew ?_ | refine blk_alloc ?_ _)); exact BK160.out)) : gb160 ≠ gb176)); have n10_ := Aside0.mk ((by rw [hg]; exact Nat.ne_of_gt (blk_lt (g := gb160) (o := .cells #[.int .i64 0, .int .i64 0, .int .i64 0, .slice none 0 0] 24 (0, 0)) (by (with_reducible repeat (first | refine blk_drewN ?_ _ | refine blk_drew ?_ | refine blk_alloc ?_ _)); exact BK160.out)) : gb176 ≠ gb160)); clear HO_160003; clear BK159; clear BK160; clear HB; have HO_160003 := n0_; have BK159 := n1_; have BK160 := n2_; have HB := n3_; have BK176 := n4_; have GW176 := n5_; have GE176 := n6_; have NB159_176 := n7_; have NB176_159 := n8_; have NB160_176 := n9_; have NB176_160 := n10_; clear n0_ n1_ n2_ n3_ n4_ n5_ n6_ n7_ n8_ n9_ n10_; clear hb hbox hg; have hnb52 := NB176_159.out; have hnc52 := NB159_176.out; have hnb53 := NB176_160.out; have hnc53 := NB160_176.out; have hcz54_0 : w51.cell? ⟨gb176, 0, none⟩ = some (.int .i64 0) := (blk_cell BK176.out 0).trans rfl; have hcz54_1 : w51.cell? ⟨gb176, 1, none⟩ = some (.int .i64 0) := (blk_cell BK176.out 1).trans rfl; have hcz54_2 : w51.cell? ⟨gb176, 2, none⟩ = some (.int .i64 0) := (blk_cell BK176.out 2).trans rfl; have hcz54_3 : w51.cell? ⟨gb176, 3, none⟩ = some (.slice none 0 0) := (blk_cell BK176.out 3).trans rfl; have hfz54_0 := blk_frozen BK176.out 0; have hfz54_1 := blk_frozen BK176.out 1; have hfz54_2 := blk_frozen BK176.out 2; have hfz54_3 := blk_frozen BK176.out 3))
          go_loopg [14] k1 (fun kq v14 w' => ∃ (x14_2 : Int) (x177003_2 : List (List Int)) (u177003 : Value), v14 = .int .i64 x14_2 ∧ Aside0 (dioramaref15_turned.l4 kq x14_2 x160000_1 x160001_1 x160002_1 x160003_1 x160000_1 x160001_1 x160002_1 x177003_2 = some (r1, r2, r3, r4)) ∧ Aside0 (kq ≤ k1) ∧ Aside0 (Kd.V (Kd.slice 3 (Kd.int .i64)) 39 w' w.heap.size (fun k_ => (P0_3_ k_ ∨ w.heap.size ≤ k_) ∧ some k_ ≠ (u177003 : Value).ownBlock ∧ k_ ≠ gb159 ∧ k_ ≠ gb160 ∧ k_ ≠ gb176) u160003 x160003_1) ∧ Aside0 (Kd.S (Kd.slice 3 (Kd.int .i64)) 39 w' w.heap.size (fun k_ => (w.heap.size ≤ k_)) u177003 x177003_2) ∧ Aside0 (w'.heap[gb159]? = some (.cells #[.int .i64 x160000_1, .int .i64 x160001_1, .int .i64 x160002_1, u160003] 24 (0, 0))) ∧ Aside0 (w'.heap[gb160]? = some (.cells #[.int .i64 0, .int .i64 0, .int .i64 0, (.slice none 0 0)] 24 (0, 0))) ∧ Aside0 (w'.heap[gb176]? = some (.cells #[.int .i64 x160000_1, .int .i64 x160001_1, .int .i64 x160002_1, u177003] 24 (0, 0))) ∧ Aside0 (Below w.heap.size w w'))
          case atStart => exact ⟨(0), (([] : List (List Int))), (.slice none 0 0), (by first | rfl | (simp; done) | (simp [*]; done)), H', ⟨Nat.le_refl _⟩, ⟨by (with_reducible repeat (first | apply Kd.V_alloc | apply Kd.V_drewN | apply Kd.V_drew)); exact Kd.V_mono (Kd.V_far (p := ⟨gb176, 3, none⟩) (Kd.V_far (p := ⟨gb176, 2, none⟩) (Kd.V_far (p := ⟨gb176, 1, none⟩) (Kd.V_far (p := ⟨gb176, 0, none⟩) (Kd.V_mono HO_160003.out (fun k_ hk => (⟨hk, hk.2⟩ : _ ∧ k_ ≠ gb176))) (fun _ hk => hk.2) (.int .i64 x160000_1)) (fun _ hk => hk.2) (.int .i64 x160001_1)) (fun _ hk => hk.2) (.int .i64 x160002_1)) (fun _ hk => hk.2) (.slice none 0 0)) (fun _ hk => ⟨hk.1.1.1, ⟨(by simp [Value.ownBlock]), ⟨hk.1.1.2.1, ⟨hk.1.1.2.2, hk.1.2⟩⟩⟩⟩)⟩, ⟨by first | exact Kd.S_nil _ _ _ _ _ | exact Kd.N_nil _ _ _ _ _ | exact Kd.V_nil _ _ _ _ _ | exact Kd.Q_nil _ _ _ _ _ | exact Kd.R_nil _ _ _ _ _⟩, ⟨by (with_reducible repeat (first | refine blk_drewN ?_ _ | refine blk_drew ?_ | refine blk_alloc ?_ _)); refine blk_far ?_ NB159_176.out _; (with_reducible repeat (first | refine blk_drewN ?_ _ | refine blk_drew ?_ | refine blk_alloc ?_ _)); refine blk_far ?_ NB159_176.out _; (with_reducible repeat (first | refine blk_drewN ?_ _ | refine blk_drew ?_ | refine blk_alloc ?_ _)); refine blk_far ?_ NB159_176.out _; (with_reducible repeat (first | refine blk_drewN ?_ _ | refine blk_drew ?_ | refine blk_alloc ?_ _)); refine blk_far ?_ NB159_176.out _; (with_reducible repeat (first | refine blk_drewN ?_ _ | refine blk_drew ?_ | refine blk_alloc ?_ _)); exact BK159.out⟩, ⟨by (with_reducible repeat (first | refine blk_drewN ?_ _ | refine blk_drew ?_ | refine blk_alloc ?_ _)); refine blk_far ?_ NB160_176.out _; (with_reducible repeat (first | refine blk_drewN ?_ _ | refine blk_drew ?_ | refine blk_alloc ?_ _)); refine blk_far ?_ NB160_176.out _; (with_reducible repeat (first | refine blk_drewN ?_ _ | refine blk_drew ?_ | refine blk_alloc ?_ _)); refine blk_far ?_ NB160_176.out _; (with_reducible repeat (first | refine blk_drewN ?_ _ | refine blk_drew ?_ | refine blk_alloc ?_ _)); refine blk_far ?_ NB160_176.out _; (with_reducible repeat (first | refine blk_drewN ?_ _ | refine blk_drew ?_ | refine blk_alloc ?_ _)); exact BK160.out⟩, ⟨by (with_reducible repeat (first | refine blk_drewN ?_ _ | refine blk_drew ?_ | refine blk_alloc ?_ _)); refine blk_put (cs := #[.int .i64 x160000_1, .int .i64 x160001_1, .int .i64 x160002_1, .slice none 0 0]) ?_ 3 _ rfl; (with_reducible repeat (first | refine blk_drewN ?_ _ | refine blk_drew ?_ | refine blk_alloc ?_ _)); refine blk_put (cs := #[.int .i64 x160000_1, .int .i64 x160001_1, .int .i64 0, .slice none 0 0]) ?_ 2 _ rfl; (with_reducible repeat (first | refine blk_drewN ?_ _ | refine blk_drew ?_ | refine blk_alloc ?_ _)); refine blk_put (cs := #[.int .i64 x160000_1, .int .i64 0, .int .i64 0, .slice none 0 0]) ?_ 1 _ rfl; (with_reducible repeat (first | refine blk_drewN ?_ _ | refine blk_drew ?_ | refine blk_alloc ?_ _)); refine blk_put (cs := #[.int .i64 0, .int .i64 0, .int .i64 0, .slice none 0 0]) ?_ 0 _ rfl; (with_reducible repeat (first | refine blk_drewN ?_ _ | refine blk_drew ?_ | refine blk_alloc ?_ _)); exact BK176.out⟩, ⟨by repeat (first | (with_reducible first | exact HB.out | apply below_alloc | apply pw_below_drewN | apply below_drew1 | refine below_set ?_ GE159.out | refine below_set ?_ GE160.out | refine below_set ?_ GE176.out) | exact HB.out)⟩⟩
          case round =>
            clear H'
            try clear c1
            try clear p1
            try clear q1
            try clear hx1
            try clear c2
            try clear p2
            try clear c3
            try clear c4
            try clear c5
            try clear c6
            try clear c6b0
            try clear p6
            try clear c7
            try clear c10
            try clear c11
            try clear c13
            try clear c13b0
            try clear c14
            try clear c15
            try clear c16
            try clear p16
            try clear q16
            try clear hx16
            try clear c18
            try clear c18b0
            try clear c19
            try clear c20
            try clear c22
            try clear c22b0
            try clear c23
            try clear c23b0
            try clear c24
            try clear c24b0
            try clear c26
            try clear c26b0
            try clear c27
            try clear c27b0
            try clear c28
            try clear c31
            try clear c32
            try clear c33
            try clear c35
            try clear c41
            try clear c42
            try clear c45
            try clear c48
            try clear c49
            try clear c52
            try clear c53
            try clear hcz12_0
            try clear hcz12_1
            try clear hcz12_2
            try clear hcz12_3
            try clear hcz16_0
            try clear hcz16_1
            try clear hcz16_2
            try clear hcz16_3
            try clear hcz21_0
            try clear hcz21_1
            try clear hcz21_2
            try clear hcz21_3
            try clear hcz34_0
            try clear hcz34_1
            try clear hcz34_2
            try clear hcz34_3
            try clear hcz36_0
            try clear hcz36_1
            try clear hcz36_2
            try clear hcz36_3
            try clear hcz40_0
            try clear hcz40_1
            try clear hcz40_2
            try clear hcz40_3
            try clear hcz43_0
            try clear hcz43_1
            try clear hcz43_2
            try clear hcz43_3
            try clear hcz46_0
            try clear hcz46_1
            try clear hcz46_2
            try clear hcz46_3
            try clear hcz50_0
            try clear hcz50_1
            try clear hcz50_2
            try clear hcz50_3
            try clear hcz54_0
            try clear hcz54_1
            try clear hcz54_2
            try clear hcz54_3
            try clear hcz8_0
            try clear hcz8_1
            try clear hcz8_2
            try clear hcz8_3
            try clear hfz12_0
            try clear hfz12_1
            try clear hfz12_2
            try clear hfz12_3
            try clear hfz16_0
            try clear hfz16_1
            try clear hfz16_2
            try clear hfz16_3
            try clear hfz21_0
            try clear hfz21_1
            try clear hfz21_2
            try clear hfz21_3
            try clear hfz34_0
            try clear hfz34_1
            try clear hfz34_2
            try clear hfz34_3
            try clear hfz36_0
            try clear hfz36_1
            try clear hfz36_2
            try clear hfz36_3
            try clear hfz40_0
            try clear hfz40_1
            try clear hfz40_2
            try clear hfz40_3
            try clear hfz43_0
            try clear hfz43_1
            try clear hfz43_2
            try clear hfz43_3
            try clear hfz46_0
            try clear hfz46_1
            try clear hfz46_2
            try clear hfz46_3
            try clear hfz50_0
            try clear hfz50_1
            try clear hfz50_2
            try clear hfz50_3
            try clear hfz54_0
            try clear hfz54_1
            try clear hfz54_2
            try clear hfz54_3
            try clear hfz8_0
            try clear hfz8_1
            try clear hfz8_2
            try clear hfz8_3
            try clear hx165_0
            try clear hx166_0
            try clear p165
            try clear p166
            try clear p2
            try clear p6
            try clear q165
            try clear q166
            obtain ⟨x14_2, x177003_2, u177003, rfl, HA, HK2, HO_160003, HO_177003, BK159, BK160, BK176, HB⟩ := hrel
            cases gk with
            | zero => exact absurd HA.out (by simp [dioramaref15_turned.l4])
            | succ k2 =>
              have H := HA.out
              clear HA
              simp only [dioramaref15_turned.l4] at H
              by_cases c55 : x14_2 < (x160003_1.length : Int)
              · rw [if_pos c55] at H
                have c55b0 : decide (x14_2 < (x160003_1.length : Int)) = true := decide_eq_true c55
                clear c55
                have H' := Aside0.mk H
                clear H
                have hnb56 := NB159_160.out
                have hnc56 := NB160_159.out
                have hnb57 := NB159_176.out
                have hnc57 := NB176_159.out
                have hcz58_0 : wr.cell? ⟨gb159, 0, none⟩ = some (.int .i64 x160000_1) := (blk_cell BK159.out 0).trans rfl
                have hcz58_1 : wr.cell? ⟨gb159, 1, none⟩ = some (.int .i64 x160001_1) := (blk_cell BK159.out 1).trans rfl
                have hcz58_2 : wr.cell? ⟨gb159, 2, none⟩ = some (.int .i64 x160002_1) := (blk_cell BK159.out 2).trans rfl
                have hcz58_3 : wr.cell? ⟨gb159, 3, none⟩ = some (u160003) := (blk_cell BK159.out 3).trans rfl
                have hfz58_0 := blk_frozen BK159.out 0
                have hfz58_1 := blk_frozen BK159.out 1
                have hfz58_2 := blk_frozen BK159.out 2
                have hfz58_3 := blk_frozen BK159.out 3
                obtain ⟨Ao59, co59, eo59⟩ := Kd.V_slice HO_160003.out
                subst eo59
                go_wp2
                go_loopg [15, 16] k2 (fun kq v15 v16 w' => ∃ (x15_3 : List Int) (x16_3 : Int), v16 = .int .i64 x16_3 ∧ Aside0 (dioramaref15_turned.l5 kq x14_2 x15_3 x16_3 x160000_1 x160001_1 x160002_1 x160003_1 x160000_1 x160001_1 x160002_1 x177003_2 = some (r1, r2, r3, r4)) ∧ Aside0 (kq ≤ k2) ∧ Aside0 (Kd.R (Kd.int .i64) 3 w' w.heap.size (fun k_ => (w.heap.size ≤ k_)) v15 x15_3) ∧ Aside0 (Kd.V (Kd.slice 3 (Kd.int .i64)) 39 w' w.heap.size (fun k_ => (P0_3_ k_ ∨ w.heap.size ≤ k_) ∧ some k_ ≠ (v15 : Value).ownBlock ∧ some k_ ≠ (u177003 : Value).ownBlock ∧ k_ ≠ gb159 ∧ k_ ≠ gb160 ∧ k_ ≠ gb176) (.slice Ao59 x160003_1.length co59) x160003_1) ∧ Aside0 (Kd.S (Kd.slice 3 (Kd.int .i64)) 39 w' w.heap.size (fun k_ => (w.heap.size ≤ k_) ∧ some k_ ≠ (v15 : Value).ownBlock) u177003 x177003_2) ∧ Aside0 (w'.heap[gb159]? = some (.cells #[.int .i64 x160000_1, .int .i64 x160001_1, .int .i64 x160002_1, (.slice Ao59 x160003_1.length co59)] 24 (0, 0))) ∧ Aside0 (w'.heap[gb160]? = some (.cells #[.int .i64 0, .int .i64 0, .int .i64 0, (.slice none 0 0)] 24 (0, 0))) ∧ Aside0 (w'.heap[gb176]? = some (.cells #[.int .i64 x160000_1, .int .i64 x160001_1, .int .i64 x160002_1, u177003] 24 (0, 0))) ∧ Aside0 (Below w.heap.size w w'))
                case atStart => exact ⟨(([] : List Int)), (0), (by first | rfl | (simp; done) | (simp [*]; done)), H', ⟨Nat.le_refl _⟩, ⟨by first | exact Kd.R_nil _ _ _ _ _ | exact Kd.N_nil _ _ _ _ _ | exact Kd.V_nil _ _ _ _ _ | exact Kd.Q_nil _ _ _ _ _ | exact Kd.S_nil _ _ _ _ _⟩, ⟨by (with_reducible repeat (first | apply Kd.V_alloc | apply Kd.V_drewN | apply Kd.V_drew)); exact Kd.V_mono HO_160003.out (fun _ hk => ⟨hk.1, ⟨(by simp [Value.ownBlock]), ⟨hk.2.1, ⟨hk.2.2.1, ⟨hk.2.2.2.1, hk.2.2.2.2⟩⟩⟩⟩⟩)⟩, ⟨by (with_reducible repeat (first | apply Kd.S_alloc | apply Kd.S_drewN | apply Kd.S_drew)); exact Kd.S_mono HO_177003.out (fun _ hk => ⟨hk, (by simp [Value.ownBlock])⟩)⟩, ⟨by (with_reducible repeat (first | refine blk_drewN ?_ _ | refine blk_drew ?_ | refine blk_alloc ?_ _)); exact BK159.out⟩, ⟨by (with_reducible repeat (first | refine blk_drewN ?_ _ | refine blk_drew ?_ | refine blk_alloc ?_ _)); exact BK160.out⟩, ⟨by (with_reducible repeat (first | refine blk_drewN ?_ _ | refine blk_drew ?_ | refine blk_alloc ?_ _)); exact BK176.out⟩, ⟨by repeat (first | (with_reducible first | exact HB.out | apply below_alloc | apply pw_below_drewN | apply below_drew1 | refine below_set ?_ GE159.out | refine below_set ?_ GE160.out | refine below_set ?_ GE176.out) | exact HB.out)⟩⟩
                case round =>
                  clear H'
                  try clear c1
                  try clear p1
                  try clear q1
                  try clear hx1
                  try clear c2
                  try clear p2
                  try clear c3
                  try clear c4
                  try clear c5
                  try clear c6
                  try clear c6b0
                  try clear p6
                  try clear c7
                  try clear c10
                  try clear c11
                  try clear c13
                  try clear c13b0
                  try clear c14
                  try clear c15
                  try clear c16
                  try clear p16
                  try clear q16
                  try clear hx16
                  try clear c18
                  try clear c18b0
                  try clear c19
                  try clear c20
                  try clear c22
                  try clear c22b0
                  try clear c23
                  try clear c23b0
                  try clear c24
                  try clear c24b0
                  try clear c26
                  try clear c26b0
                  try clear c27
                  try clear c27b0
                  try clear c28
                  try clear c31
                  try clear c32
                  try clear c33
                  try clear c35
                  try clear c41
                  try clear c42
                  try clear c45
                  try clear c48
                  try clear c49
                  try clear c52
                  try clear c53
                  try clear c55
                  try clear c55b0
                  try clear c56
                  try clear c57
                  try clear hcz12_0
                  try clear hcz12_1
                  try clear hcz12_2
                  try clear hcz12_3
                  try clear hcz16_0
                  try clear hcz16_1
                  try clear hcz16_2
                  try clear hcz16_3
                  try clear hcz21_0
                  try clear hcz21_1
                  try clear hcz21_2
                  try clear hcz21_3
                  try clear hcz34_0
                  try clear hcz34_1
                  try clear hcz34_2
                  try clear hcz34_3
                  try clear hcz36_0
                  try clear hcz36_1
                  try clear hcz36_2
                  try clear hcz36_3
                  try clear hcz40_0
                  try clear hcz40_1
                  try clear hcz40_2
                  try clear hcz40_3
                  try clear hcz43_0
                  try clear hcz43_1
                  try clear hcz43_2
                  try clear hcz43_3
                  try clear hcz46_0
                  try clear hcz46_1
                  try clear hcz46_2
                  try clear hcz46_3
                  try clear hcz50_0
                  try clear hcz50_1
                  try clear hcz50_2
                  try clear hcz50_3
                  try clear hcz54_0
                  try clear hcz54_1
                  try clear hcz54_2
                  try clear hcz54_3
                  try clear hcz58_0
                  try clear hcz58_1
                  try clear hcz58_2
                  try clear hcz58_3
                  try clear hcz8_0
                  try clear hcz8_1
                  try clear hcz8_2
                  try clear hcz8_3
                  try clear hfz12_0
                  try clear hfz12_1
                  try clear hfz12_2
                  try clear hfz12_3
                  try clear hfz16_0
                  try clear hfz16_1
                  try clear hfz16_2
                  try clear hfz16_3
                  try clear hfz21_0
                  try clear hfz21_1
                  try clear hfz21_2
                  try clear hfz21_3
                  try clear hfz34_0
                  try clear hfz34_1
                  try clear hfz34_2
                  try clear hfz34_3
                  try clear hfz36_0
                  try clear hfz36_1
                  try clear hfz36_2
                  try clear hfz36_3
                  try clear hfz40_0
                  try clear hfz40_1
                  try clear hfz40_2
                  try clear hfz40_3
                  try clear hfz43_0
                  try clear hfz43_1
                  try clear hfz43_2
                  try clear hfz43_3
                  try clear hfz46_0
                  try clear hfz46_1
                  try clear hfz46_2
                  try clear hfz46_3
                  try clear hfz50_0
                  try clear hfz50_1
                  try clear hfz50_2
                  try clear hfz50_3
                  try clear hfz54_0
                  try clear hfz54_1
                  try clear hfz54_2
                  try clear hfz54_3
                  try clear hfz58_0
                  try clear hfz58_1
                  try clear hfz58_2
                  try clear hfz58_3
                  try clear hfz8_0
                  try clear hfz8_1
                  try clear hfz8_2
                  try clear hfz8_3
                  try clear hx165_0
                  try clear hx166_0
                  try clear p1
                  try clear p16
                  try clear p165
                  try clear p166
                  try clear p2
                  try clear p6
                  try clear q1
                  try clear q16
                  try clear q165
                  try clear q166
                  obtain ⟨x15_3, x16_3, rfl, HA, HK3, HO_15, HO_160003, HO_177003, BK159, BK160, BK176, HB⟩ := hrel
                  cases gk with
                  | zero => exact absurd HA.out (by simp [dioramaref15_turned.l5])
                  | succ k3 =>
                    have H := HA.out
                    clear HA
                    simp only [dioramaref15_turned.l5] at H
                    by_cases c60 : x16_3 < x160001_1
                    · rw [if_pos c60] at H
                      have c60b0 : decide (x16_3 < x160001_1) = true := decide_eq_true c60
                      clear c60
                      have H' := Aside0.mk H
                      clear H
                      have hnb61 := NB159_160.out
                      have hnc61 := NB160_159.out
                      have hnb62 := NB159_176.out
                      have hnc62 := NB176_159.out
                      have hcz63_0 : wr.cell? ⟨gb159, 0, none⟩ = some (.int .i64 x160000_1) := (blk_cell BK159.out 0).trans rfl
                      have hcz63_1 : wr.cell? ⟨gb159, 1, none⟩ = some (.int .i64 x160001_1) := (blk_cell BK159.out 1).trans rfl
                      have hcz63_2 : wr.cell? ⟨gb159, 2, none⟩ = some (.int .i64 x160002_1) := (blk_cell BK159.out 2).trans rfl
                      have hcz63_3 : wr.cell? ⟨gb159, 3, none⟩ = some (.slice Ao59 x160003_1.length co59) := (blk_cell BK159.out 3).trans rfl
                      have hfz63_0 := blk_frozen BK159.out 0
                      have hfz63_1 := blk_frozen BK159.out 1
                      have hfz63_2 := blk_frozen BK159.out 2
                      have hfz63_3 := blk_frozen BK159.out 3
                      go_wp2
                      go_loopg [15, 17] k3 (fun kq v15 v17 w' => ∃ (x15_4 : List Int) (x17_4 : Int), v17 = .int .i64 x17_4 ∧ Aside0 (dioramaref15_turned.l6 kq x14_2 x15_4 x16_3 x17_4 x160000_1 x160001_1 x160002_1 x160003_1 x160000_1 x160001_1 x160002_1 x177003_2 = some (r1, r2, r3, r4)) ∧ Aside0 (kq ≤ k3) ∧ Aside0 (Kd.R (Kd.int .i64) 3 w' w.heap.size (fun k_ => (w.heap.size ≤ k_)) v15 x15_4) ∧ Aside0 (Kd.V (Kd.slice 3 (Kd.int .i64)) 39 w' w.heap.size (fun k_ => (P0_3_ k_ ∨ w.heap.size ≤ k_) ∧ some k_ ≠ (v15 : Value).ownBlock ∧ some k_ ≠ (u177003 : Value).ownBlock ∧ k_ ≠ gb159 ∧ k_ ≠ gb160 ∧ k_ ≠ gb176) (.slice Ao59 x160003_1.length co59) x160003_1) ∧ Aside0 (Kd.S (Kd.slice 3 (Kd.int .i64)) 39 w' w.heap.size (fun k_ => (w.heap.size ≤ k_) ∧ some k_ ≠ (v15 : Value).ownBlock) u177003 x177003_2) ∧ Aside0 (w'.heap[gb159]? = some (.cells #[.int .i64 x160000_1, .int .i64 x160001_1, .int .i64 x160002_1, (.slice Ao59 x160003_1.length co59)] 24 (0, 0))) ∧ Aside0 (w'.heap[gb160]? = some (.cells #[.int .i64 0, .int .i64 0, .int .i64 0, (.slice none 0 0)] 24 (0, 0))) ∧ Aside0 (w'.heap[gb176]? = some (.cells #[.int .i64 x160000_1, .int .i64 x160001_1, .int .i64 x160002_1, u177003] 24 (0, 0))) ∧ Aside0 (Below w.heap.size w w'))
                      case atStart => exact ⟨(x15_3), (wrap64 (x160000_1 - 1)), (by first | rfl | (simp; done) | (simp [*]; done)), H', ⟨Nat.le_refl _⟩, ⟨by (with_reducible repeat (first | apply Kd.R_alloc | apply Kd.R_drewN | apply Kd.R_drew)); exact HO_15.out⟩, ⟨by (with_reducible repeat (first | apply Kd.V_alloc | apply Kd.V_drewN | apply Kd.V_drew)); exact HO_160003.out⟩, ⟨by (with_reducible repeat (first | apply Kd.S_alloc | apply Kd.S_drewN | apply Kd.S_drew)); exact HO_177003.out⟩, ⟨by (with_reducible repeat (first | refine blk_drewN ?_ _ | refine blk_drew ?_ | refine blk_alloc ?_ _)); exact BK159.out⟩, ⟨by (with_reducible repeat (first | refine blk_drewN ?_ _ | refine blk_drew ?_ | refine blk_alloc ?_ _)); exact BK160.out⟩, ⟨by (with_reducible repeat (first | refine blk_drewN ?_ _ | refine blk_drew ?_ | refine blk_alloc ?_ _)); exact BK176.out⟩, ⟨by repeat (first | (with_reducible first | exact HB.out | apply below_alloc | apply pw_below_drewN | apply below_drew1 | refine below_set ?_ GE159.out | refine below_set ?_ GE160.out | refine below_set ?_ GE176.out) | exact HB.out)⟩⟩
                      case round =>
                        clear H'
                        try clear c1
                        try clear p1
                        try clear q1
                        try clear hx1
                        try clear c2
                        try clear p2
                        try clear c3
                        try clear c4
                        try clear c5
                        try clear c6
                        try clear c6b0
                        try clear p6
                        try clear c7
                        try clear c10
                        try clear c11
                        try clear c13
                        try clear c13b0
                        try clear c14
                        try clear c15
                        try clear c16
                        try clear p16
                        try clear q16
                        try clear hx16
                        try clear c18
                        try clear c18b0
                        try clear c19
                        try clear c20
                        try clear c22
                        try clear c22b0
                        try clear c23
                        try clear c23b0
                        try clear c24
                        try clear c24b0
                        try clear c26
                        try clear c26b0
                        try clear c27
                        try clear c27b0
                        try clear c28
                        try clear c31
                        try clear c32
                        try clear c33
                        try clear c35
                        try clear c41
                        try clear c42
                        try clear c45
                        try clear c48
                        try clear c49
                        try clear c52
                        try clear c53
                        try clear c55
                        try clear c55b0
                        try clear c56
                        try clear c57
                        try clear c60
                        try clear c60b0
                        try clear c61
                        try clear c62
                        try clear hcz12_0
                        try clear hcz12_1
                        try clear hcz12_2
                        try clear hcz12_3
                        try clear hcz16_0
                        try clear hcz16_1
                        try clear hcz16_2
                        try clear hcz16_3
                        try clear hcz21_0
                        try clear hcz21_1
                        try clear hcz21_2
                        try clear hcz21_3
                        try clear hcz34_0
                        try clear hcz34_1
                        try clear hcz34_2
                        try clear hcz34_3
                        try clear hcz36_0
                        try clear hcz36_1
                        try clear hcz36_2
                        try clear hcz36_3
                        try clear hcz40_0
                        try clear hcz40_1
                        try clear hcz40_2
                        try clear hcz40_3
                        try clear hcz43_0
                        try clear hcz43_1
                        try clear hcz43_2
                        try clear hcz43_3
                        try clear hcz46_0
                        try clear hcz46_1
                        try clear hcz46_2
                        try clear hcz46_3
                        try clear hcz50_0
                        try clear hcz50_1
                        try clear hcz50_2
                        try clear hcz50_3
                        try clear hcz54_0
                        try clear hcz54_1
                        try clear hcz54_2
                        try clear hcz54_3
                        try clear hcz58_0
                        try clear hcz58_1
                        try clear hcz58_2
                        try clear hcz58_3
                        try clear hcz63_0
                        try clear hcz63_1
                        try clear hcz63_2
                        try clear hcz63_3
                        try clear hcz8_0
                        try clear hcz8_1
                        try clear hcz8_2
                        try clear hcz8_3
                        try clear hfz12_0
                        try clear hfz12_1
                        try clear hfz12_2
                        try clear hfz12_3
                        try clear hfz16_0
                        try clear hfz16_1
                        try clear hfz16_2
                        try clear hfz16_3
                        try clear hfz21_0
                        try clear hfz21_1
                        try clear hfz21_2
                        try clear hfz21_3
                        try clear hfz34_0
                        try clear hfz34_1
                        try clear hfz34_2
                        try clear hfz34_3
                        try clear hfz36_0
                        try clear hfz36_1
                        try clear hfz36_2
                        try clear hfz36_3
                        try clear hfz40_0
                        try clear hfz40_1
                        try clear hfz40_2
                        try clear hfz40_3
                        try clear hfz43_0
                        try clear hfz43_1
                        try clear hfz43_2
                        try clear hfz43_3
                        try clear hfz46_0
                        try clear hfz46_1
                        try clear hfz46_2
                        try clear hfz46_3
                        try clear hfz50_0
                        try clear hfz50_1
                        try clear hfz50_2
                        try clear hfz50_3
                        try clear hfz54_0
                        try clear hfz54_1
                        try clear hfz54_2
                        try clear hfz54_3
                        try clear hfz58_0
                        try clear hfz58_1
                        try clear hfz58_2
                        try clear hfz58_3
                        try clear hfz63_0
                        try clear hfz63_1
                        try clear hfz63_2
                        try clear hfz63_3
                        try clear hfz8_0
                        try clear hfz8_1
                        try clear hfz8_2
                        try clear hfz8_3
                        try clear hx165_0
                        try clear hx166_0
                        try clear p1
                        try clear p16
                        try clear p165
                        try clear p166
                        try clear p2
                        try clear p6
                        try clear q1
                        try clear q16
                        try clear q165
                        try clear q166
                        obtain ⟨x15_4, x17_4, rfl, HA, HK4, HO_15, HO_160003, HO_177003, BK159, BK160, BK176, HB⟩ := hrel
                        cases gk with
                        | zero => exact absurd HA.out (by simp [dioramaref15_turned.l6])
                        | succ k4 =>
                          have H := HA.out
                          clear HA
                          simp only [dioramaref15_turned.l6] at H
                          by_cases c64 : x17_4 ≥ 0
                          · rw [if_pos c64] at H
                            have c64b0 : decide (0 ≤ x17_4) = true := decide_eq_true c64
                            clear c64
                            by_cases c65 : 0 ≤ x14_2
                            · rw [if_pos c65] at H
                              have c65b0 : decide (0 ≤ x14_2) = true := decide_eq_true c65
                              clear c65
                              by_cases c66 : x14_2 < (x160003_1.length : Int)
                              · rw [if_pos c66] at H
                                have c66b0 : decide (x14_2 < (x160003_1.length : Int)) = true := decide_eq_true c66
                                clear c66
                                obtain ⟨ji67, hji67⟩ : ∃ j_ : Int, (wrap64 ((wrap64 (x16_3 * x160000_1)) + x17_4)) = j_ := ⟨_, rfl⟩
                                replace H : (if 0 ≤ (ji67) then (if (ji67) < ((rd_L1 x160003_1 x14_2).length : Int) then (if x15_4.length < 17592186044416 then (dioramaref15_turned.l6 k4 x14_2 (x15_4 ++ [rd (rd_L1 x160003_1 x14_2) (ji67)]) x16_3 (wrap64 (x17_4 - 1)) x160000_1 x160001_1 x160002_1 x160003_1 x160000_1 x160001_1 x160002_1 x177003_2) else (none)) else (none)) else (none)) = some (r1, r2, r3, r4) := by first | (rw [hji67] at H; exact H) | (simp only [hji67] at H ⊢; exact H)
                                have hji67w : (IntKind.i64.wrap ((wrap64 (x16_3 * x160000_1)) + x17_4)) = ji67 := (i64_w _).trans hji67
                                by_cases c68 : 0 ≤ (ji67)
                                · rw [if_pos c68] at H
                                  have c68b0 : decide (0 ≤ (ji67)) = true := decide_eq_true c68
                                  clear c68
                                  by_cases c69 : (ji67) < ((rd_L1 x160003_1 x14_2).length : Int)
                                  · rw [if_pos c69] at H
                                    have c69b0 : decide ((ji67) < ((rd_L1 x160003_1 x14_2).length : Int)) = true := decide_eq_true c69
                                    clear c69
                                    by_cases c70 : x15_4.length < 17592186044416
                                    · rw [if_pos c70] at H
                                      have LMc70 := Aside0.mk c70
                                      clear c70
                                      obtain ⟨y182, hy182⟩ : ∃ y_ : List Int, y_ = (x15_4 ++ [rd (rd_L1 x160003_1 x14_2) (ji67)]) := ⟨_, rfl⟩
                                      replace H : (dioramaref15_turned.l6 k4 x14_2 y182 x16_3 (wrap64 (x17_4 - 1)) x160000_1 x160001_1 x160002_1 x160003_1 x160000_1 x160001_1 x160002_1 x177003_2) = some (r1, r2, r3, r4) := by first | (rw [hy182]; with_reducible exact H) | (have H2_ := (Option.bind_some _ _).symm.trans H; rw [hy182]; with_reducible exact H2_) | (have H2_ := (Option.bind_some _ _).symm.trans H; with_reducible exact H2_) | with_reducible exact H | (rw [hy182]; exact H) | exact H
                                      have Ny182 := Aside0.mk hy182
                                      clear hy182
                                      have H' := Aside0.mk H
                                      clear H
                                      try go_wp2
                                      have n0_ := Aside0.mk (Kd.R_drew HO_15.out)
                                      have n1_ := Aside0.mk (Kd.V_drew HO_160003.out)
                                      have n2_ := Aside0.mk (Kd.S_drew HO_177003.out)
                                      have n3_ := Aside0.mk (blk_drew BK159.out)
                                      have n4_ := Aside0.mk (blk_drew BK160.out)
                                      have n5_ := Aside0.mk (blk_drew BK176.out)
                                      have n6_ := Aside0.mk (below_drew1 HB.out)
                                      clear HO_15
                                      clear HO_160003
                                      clear HO_177003
                                      clear BK159
                                      clear BK160
                                      clear BK176
                                      clear HB
                                      have HO_15 := n0_
                                      have HO_160003 := n1_
                                      have HO_177003 := n2_
                                      have BK159 := n3_
                                      have BK160 := n4_
                                      have BK176 := n5_
                                      have HB := n6_
                                      clear n0_ n1_ n2_ n3_ n4_ n5_ n6_
                                      have p180 : 0 ≤ (x14_2 : Int) := of_decide_eq_true (by first | (with_reducible assumption) | assumption)
                                      have q180 : x14_2 < (x160003_1.length : Int) := of_decide_eq_true (by first | (with_reducible assumption) | assumption)
                                      obtain ⟨ad180, A180_0, c180_0, e180, hx180_0, hl180_0, hi180_0⟩ := at_L1 (Kd.V_reads' HO_160003.out).2.2 x14_2 p180 q180
                                      cases e180
                                      obtain ⟨ce180, hce180, hMe180, hcc180⟩ := Kd.V_get HO_160003.out [] x14_2 p180 (by first | exact q180 | exact of_decide_eq_true (by first | (with_reducible assumption) | assumption) | (have e_ := (Kd.V_reads' HO_160003.out).1; omega))
                                      obtain ⟨ua180_0, uc180_0, rfl, ul180_0, ge180_0⟩ := Kd.FK_slice_open hMe180
                                      have hv180_0 := hcc180 0 _ rfl
                                      rw [Nat.add_zero, show ((Kd.slice 3 (Kd.int .i64))).sz = 1 from rfl, Nat.mul_one] at hv180_0
                                      replace hv180_0 := Option.some.inj (hv180_0.symm.trans hx180_0)
                                      injection hv180_0 with hva_ hvn_ hvc_
                                      rw [hva_] at ge180_0
                                      rw [hvc_] at ul180_0
                                      have HL180_0 := Aside0.mk (show Kd.V (Kd.int .i64) 3 _ w.heap.size _ _ (rd_L1 x160003_1 x14_2) from Kd.V_mk ul180_0 ge180_0)
                                      clear hva_ hvn_ hvc_ ge180_0 ul180_0
                                      clear hcc180 hce180
                                      have HR180_0 := Aside0.mk hi180_0
                                      have HC180_0 := Aside0.mk hl180_0
                                      clear hi180_0 hl180_0
                                      replace p180 := eq_true p180
                                      replace q180 := eq_true q180
                                      have p181 : 0 ≤ ((ji67) : Int) := of_decide_eq_true (by first | (with_reducible assumption) | assumption)
                                      have q181 : (ji67) < ((rd_L1 x160003_1 x14_2).length : Int) := of_decide_eq_true (by first | (with_reducible assumption) | assumption)
                                      obtain ⟨ad181, e181, hx181_0⟩ := Kd.at_int (by repeat (first | (with_reducible exact HR180_0.out) | (with_reducible refine Kd.C_alloc ?_ _) | (with_reducible refine Kd.C_drewN ?_ _) | (with_reducible refine Kd.C_drew ?_) | exact HR180_0.out)) (ji67) p181 q181
                                      cases e181
                                      replace p181 := eq_true p181
                                      replace q181 := eq_true q181
                                      refine start_ (n := 17) (S := fun w' => w'.cell? ⟨gb159, 0, none⟩ = some (.int .i64 x160000_1) ∧ w'.cell? ⟨gb159, 1, none⟩ = some (.int .i64 x160001_1) ∧ w'.cell? ⟨gb159, 2, none⟩ = some (.int .i64 x160002_1) ∧ w'.cell? ⟨gb159, 3, none⟩ = some (.slice (some ad180) x160003_1.length co59) ∧ w'.cell? (ad180.add (x14_2).toNat) = some (.slice (some ad181) (rd_L1 x160003_1 x14_2).length c180_0) ∧ w'.cell? (ad181.add ((ji67)).toNat) = some (.int .i64 (rd (rd_L1 x160003_1 x14_2) (ji67)))) (ds := [14, 15]) #[false, false, false, false, false, false, false, false, false, false, false, false, false, false, false, false, false] (by kernel_rfl) rfl rfl ⟨(blk_cell BK159.out 0).trans rfl, (blk_cell BK159.out 1).trans rfl, (blk_cell BK159.out 2).trans rfl, (blk_cell BK159.out 3).trans rfl, hx180_0, hx181_0⟩ (fun hHeld => ?_); refine with_tabW dioramaref15_turned.tab31 dioramaref15_turned.bits31 (fun HT_ HW_ => ?_)
                                      generalize wr.drew = w71 at HO_15 HO_160003 HO_177003 BK159 BK160 BK176 HB HL180_0 HR180_0 hx180_0 hx181_0 hHeld ⊢
                                      refine pure_ (i := 0) (N := some 104) (v := ?_) (a' := ?_) #[true, false, false, false, false, false, false, false, false, false, false, false, false, false, false, false, false] rfl rfl (any_of HT_.out (by kernel_rfl)) (fun _ _ _ h => h) (Or.inl ⟨by rfl, ?_⟩) ?_ ?_
                                      rotate_left
                                      · intro w'
                                        go_simp
                                        with_reducible rfl
                                      rotate_left
                                      · simp only [Act.put, List.setIfInBounds_toArray, List.set_cons_zero, List.set_cons_succ, i64_w, i32_w]
                                        rfl
                                      refine pure_ (i := 1) (N := some 105) (v := ?_) (a' := ?_) #[true, true, false, false, false, false, false, false, false, false, false, false, false, false, false, false, false] rfl rfl (any_of HT_.out (by kernel_rfl)) (fun _ _ _ h => h) (Or.inl ⟨by rfl, ?_⟩) ?_ ?_
                                      rotate_left
                                      · intro w'
                                        go_simp
                                        with_reducible rfl
                                      rotate_left
                                      · simp only [Act.put, List.setIfInBounds_toArray, List.set_cons_zero, List.set_cons_succ, i64_w, i32_w]
                                        rfl
                                      refine pure_ (i := 3) (N := some 107) (v := ?_) (a' := ?_) #[true, true, false, true, false, false, false, false, false, false, false, false, false, false, false, false, false] rfl rfl (any_of HT_.out (by kernel_rfl)) (fun _ _ _ h => h) (Or.inl ⟨by rfl, ?_⟩) ?_ ?_
                                      rotate_left
                                      · intro w'
                                        go_simp
                                        with_reducible rfl
                                      rotate_left
                                      · simp only [Act.put, List.setIfInBounds_toArray, List.set_cons_zero, List.set_cons_succ, i64_w, i32_w]
                                        rfl
                                      refine pure_ (i := 6) (N := some 110) (v := ?_) (a' := ?_) #[true, true, false, true, false, false, true, false, false, false, false, false, false, false, false, false, false] rfl rfl (any_of HT_.out (by kernel_rfl)) (fun _ _ _ h => h) (Or.inl ⟨by rfl, ?_⟩) ?_ ?_
                                      rotate_left
                                      · intro w'
                                        go_simp
                                        with_reducible rfl
                                      rotate_left
                                      · simp only [Act.put, List.setIfInBounds_toArray, List.set_cons_zero, List.set_cons_succ, i64_w, i32_w]
                                        rfl
                                      refine pure_ (i := 7) (N := some 111) (v := ?_) (a' := ?_) #[true, true, false, true, false, false, true, true, false, false, false, false, false, false, false, false, false] rfl rfl (any_of HT_.out (by kernel_rfl)) (fun _ _ _ h => h) (Or.inl ⟨by rfl, ?_⟩) ?_ ?_
                                      rotate_left
                                      · intro w'
                                        go_simp
                                        with_reducible rfl
                                      rotate_left
                                      · simp only [Act.put, List.setIfInBounds_toArray, List.set_cons_zero, List.set_cons_succ, i64_w, i32_w]
                                        rfl
                                      refine pure_ (i := 10) (N := some 114) (v := ?_) (a' := ?_) #[true, true, false, true, false, false, true, true, false, false, true, false, false, false, false, false, false] rfl rfl (any_of HT_.out (by kernel_rfl)) (fun _ _ _ h => h) (Or.inl ⟨by rfl, ?_⟩) ?_ ?_
                                      rotate_left
                                      · intro w'
                                        go_simp
                                        with_reducible rfl
                                      rotate_left
                                      · simp only [Act.put, List.setIfInBounds_toArray, List.set_cons_zero, List.set_cons_succ, i64_w, i32_w]
                                        rfl
                                      refine take_ (i := 2) (N := some 106) (v := ?_) (a' := ?_) #[true, true, true, true, false, false, true, true, false, false, true, false, false, false, false, false, false] rfl rfl (take_ofW HT_.out HW_.out (by kernel_rfl)) (fun _ _ _ h => h) (Or.inl ⟨by rfl, ?_⟩) hHeld ?_ ?_
                                      rotate_left
                                      · rintro w' ⟨s0, s1, s2, s3, s4, s5⟩
                                        go_simp
                                        with_reducible rfl
                                      rotate_left
                                      · simp only [Act.put, List.setIfInBounds_toArray, List.set_cons_zero, List.set_cons_succ, i64_w, i32_w]
                                        rfl
                                      refine pure_ (i := 4) (N := some 108) (v := ?_) (a' := ?_) #[true, true, true, true, true, false, true, true, false, false, true, false, false, false, false, false, false] rfl rfl (any_of HT_.out (by kernel_rfl)) (fun _ _ _ h => h) (Or.inl ⟨by rfl, ?_⟩) ?_ ?_
                                      rotate_left
                                      · intro w'
                                        go_simp
                                        with_reducible rfl
                                      rotate_left
                                      · simp only [Act.put, List.setIfInBounds_toArray, List.set_cons_zero, List.set_cons_succ, i64_w, i32_w]
                                        rfl
                                      refine take_ (i := 5) (N := some 109) (v := ?_) (a' := ?_) #[true, true, true, true, true, true, true, true, false, false, true, false, false, false, false, false, false] rfl rfl (take_ofW HT_.out HW_.out (by kernel_rfl)) (fun _ _ _ h => h) (Or.inl ⟨by rfl, ?_⟩) hHeld ?_ ?_
                                      rotate_left
                                      · rintro w' ⟨s0, s1, s2, s3, s4, s5⟩
                                        go_simp
                                        with_reducible rfl
                                      rotate_left
                                      · simp only [Act.put, List.setIfInBounds_toArray, List.set_cons_zero, List.set_cons_succ, i64_w, i32_w]
                                        rfl
                                      refine take_ (i := 8) (N := some 112) (v := ?_) (a' := ?_) #[true, true, true, true, true, true, true, true, true, false, true, false, false, false, false, false, false] rfl rfl (take_ofW HT_.out HW_.out (by kernel_rfl)) (fun _ _ _ h => h) (Or.inl ⟨by rfl, ?_⟩) hHeld ?_ ?_
                                      rotate_left
                                      · rintro w' ⟨s0, s1, s2, s3, s4, s5⟩
                                        go_simp
                                        with_reducible rfl
                                      rotate_left
                                      · simp only [Act.put, List.setIfInBounds_toArray, List.set_cons_zero, List.set_cons_succ, i64_w, i32_w]
                                        rfl
                                      refine pure_ (i := 9) (N := some 113) (v := ?_) (a' := ?_) #[true, true, true, true, true, true, true, true, true, true, true, false, false, false, false, false, false] rfl rfl (any_of HT_.out (by kernel_rfl)) (fun _ _ _ h => h) (Or.inl ⟨by rfl, ?_⟩) ?_ ?_
                                      rotate_left
                                      · intro w'
                                        go_simp
                                        with_reducible rfl
                                      rotate_left
                                      · simp only [Act.put, List.setIfInBounds_toArray, List.set_cons_zero, List.set_cons_succ, i64_w, i32_w]
                                        rfl
                                      refine pure_ (i := 11) (N := some 115) (v := ?_) (a' := ?_) #[true, true, true, true, true, true, true, true, true, true, true, true, false, false, false, false, false] rfl rfl (any_of HT_.out (by kernel_rfl)) (fun _ _ _ h => h) (Or.inl ⟨by rfl, ?_⟩) ?_ ?_
                                      rotate_left
                                      · intro w'
                                        go_simp
                                        with_reducible rfl
                                      rotate_left
                                      · simp only [Act.put, List.setIfInBounds_toArray, List.set_cons_zero, List.set_cons_succ, i64_w, i32_w]
                                        rfl
                                      refine pure_ (i := 12) (N := some 116) (v := ?_) (a' := ?_) #[true, true, true, true, true, true, true, true, true, true, true, true, true, false, false, false, false] rfl rfl (any_of HT_.out (by kernel_rfl)) (fun _ _ _ h => h) (Or.inl ⟨by rfl, ?_⟩) ?_ ?_
                                      rotate_left
                                      · intro w'
                                        go_simp
                                        with_reducible rfl
                                      rotate_left
                                      · simp only [Act.put, List.setIfInBounds_toArray, List.set_cons_zero, List.set_cons_succ, i64_w, i32_w]
                                        rfl
                                      refine take_ (i := 13) (N := some 117) (v := ?_) (a' := ?_) #[true, true, true, true, true, true, true, true, true, true, true, true, true, true, false, false, false] rfl rfl (take_ofW HT_.out HW_.out (by kernel_rfl)) (fun _ _ _ h => h) (Or.inl ⟨by rfl, ?_⟩) hHeld ?_ ?_
                                      rotate_left
                                      · rintro w' ⟨s0, s1, s2, s3, s4, s5⟩
                                        go_simp
                                        with_reducible rfl
                                      rotate_left
                                      · simp only [Act.put, List.setIfInBounds_toArray, List.set_cons_zero, List.set_cons_succ, i64_w, i32_w]
                                        rfl
                                      refine last_ (i := 14) (N := some 118) #[true, true, true, true, true, true, true, true, true, true, true, true, true, true, true, false, false] rfl rfl (one_of HT_.out (by kernel_rfl)) (by decide) (fun K hK => ?_)
                                      refine value_ (w1 := ?_) (v := ?_) (by rfl) rfl ?_ ?_
                                      rotate_left 2
                                      · go_simp
                                        constructor
                                        · rfl
                                        · rfl
                                      refine hK.out _ _ ?_
                                      clear hK K
                                      refine norm_ (a' := ?_) ?_ ?_
                                      rotate_left
                                      · show Act.put _ (some 118) _ = _
                                        simp only [Act.put, List.setIfInBounds_toArray, List.set_cons_zero, List.set_cons_succ, i64_w, i32_w]
                                        rfl
                                      refine last_ (i := 15) (N := some 119) #[true, true, true, true, true, true, true, true, true, true, true, true, true, true, true, true, false] rfl rfl (one_of HT_.out (by kernel_rfl)) (by decide) (fun K hK => ?_)
                                      refine Kd.R_append_step (Kd.int .i64) (w0 := w) w.heap.size (by rfl) (.tmp 104) (.tmp 118) 39 3 (.int .i64 0) 8 rfl Tryz.underlying39 info3 rfl (by decide) (by omega) u15 x15_4 (rd (rd_L1 x160003_1 x14_2) (ji67)) [.int .i64 (rd (rd_L1 x160003_1 x14_2) (ji67))] (fun k_ => (w.heap.size ≤ k_)) (fun _ => False) rfl rfl ?aP (fun _ hk => hk.elim) ?aF ?aO ?aB ?aS ?aL ?_
                                      (case aP => exact rfl)
                                      (case aB => exact (by repeat (first | (with_reducible first | exact HB.out | apply below_alloc | apply pw_below_drewN | apply below_drew1 | refine below_set ?_ GE159.out | refine below_set ?_ GE160.out | refine below_set ?_ GE176.out) | exact HB.out)))
                                      (case aF => exact (fun k_ hk => (Nat.le_trans (below_size (by repeat (first | (with_reducible first | exact HB.out | apply below_alloc | apply pw_below_drewN | apply below_drew1 | refine below_set ?_ GE159.out | refine below_set ?_ GE160.out | refine below_set ?_ GE176.out) | exact HB.out))) hk)))
                                      (case aO => exact (by (with_reducible repeat (first | apply Kd.R_alloc | apply Kd.R_drewN | apply Kd.R_drew)); exact HO_15.out))
                                      (case aS => exact (below_size (by repeat (first | (with_reducible first | exact HB.out | apply below_alloc | apply pw_below_drewN | apply below_drew1 | refine below_set ?_ GE159.out | refine below_set ?_ GE160.out | refine below_set ?_ GE176.out) | exact HB.out))))
                                      (case aL => have := LMc70.out; omega)
                                      intro v183 w72 ho hb hg hat
                                      rw [← Ny182.out] at ho
                                      have n0_ := Aside0.mk (Kd.V_afterv (ok := (fun k_ => (P0_3_ k_ ∨ w.heap.size ≤ k_) ∧ some k_ ≠ (u177003 : Value).ownBlock ∧ k_ ≠ gb159 ∧ k_ ≠ gb160 ∧ k_ ≠ gb176)) (by (with_reducible repeat (first | apply Kd.V_alloc | apply Kd.V_drewN | apply Kd.V_drew)); exact Kd.V_mono HO_160003.out (fun _ hk => ⟨⟨hk.1, ⟨hk.2.2.1, ⟨hk.2.2.2.1, ⟨hk.2.2.2.2.1, hk.2.2.2.2.2⟩⟩⟩⟩, hk.2.1⟩)) hg hat)
                                      have n1_ := Aside0.mk (Kd.S_after (ok := (fun k_ => (w.heap.size ≤ k_))) (by (with_reducible repeat (first | apply Kd.S_alloc | apply Kd.S_drewN | apply Kd.S_drew)); exact HO_177003.out) hg hat)
                                      have n2_ := Aside0.mk (blk_grown (g := gb159) (o := .cells #[.int .i64 x160000_1, .int .i64 x160001_1, .int .i64 x160002_1, .slice (some ad180) x160003_1.length co59] 24 (0, 0)) (by (with_reducible repeat (first | refine blk_drewN ?_ _ | refine blk_drew ?_ | refine blk_alloc ?_ _)); exact BK159.out) hg (Kd.R_ne HO_15.out BK159.out (by decide)))
                                      have n3_ := Aside0.mk (blk_grown (g := gb160) (o := .cells #[.int .i64 0, .int .i64 0, .int .i64 0, .slice none 0 0] 24 (0, 0)) (by (with_reducible repeat (first | refine blk_drewN ?_ _ | refine blk_drew ?_ | refine blk_alloc ?_ _)); exact BK160.out) hg (Kd.R_ne HO_15.out BK160.out (by decide)))
                                      have n4_ := Aside0.mk (blk_grown (g := gb176) (o := .cells #[.int .i64 x160000_1, .int .i64 x160001_1, .int .i64 x160002_1, u177003] 24 (0, 0)) (by (with_reducible repeat (first | refine blk_drewN ?_ _ | refine blk_drew ?_ | refine blk_alloc ?_ _)); exact BK176.out) hg (Kd.R_ne HO_15.out BK176.out (by decide)))
                                      have n5_ := Aside0.mk (Kd.V_afterv (ok := (fun k_ => (P0_3_ k_ ∨ w.heap.size ≤ k_) ∧ some k_ ≠ (u177003 : Value).ownBlock ∧ k_ ≠ gb159 ∧ k_ ≠ gb160 ∧ k_ ≠ gb176)) (by (with_reducible repeat (first | apply Kd.V_alloc | apply Kd.V_drewN | apply Kd.V_drew)); exact Kd.V_mono HL180_0.out (fun _ hk => ⟨⟨hk.1, ⟨hk.2.2.1, ⟨hk.2.2.2.1, ⟨hk.2.2.2.2.1, hk.2.2.2.2.2⟩⟩⟩⟩, hk.2.1⟩)) hg hat)
                                      have n6_ := Aside0.mk (hb)
                                      have n7_ := Aside0.mk (ho)
                                      clear HO_160003
                                      clear HO_177003
                                      clear BK159
                                      clear BK160
                                      clear BK176
                                      clear HL180_0
                                      clear HB
                                      clear HO_15
                                      have HO_160003 := n0_
                                      have HO_177003 := n1_
                                      have BK159 := n2_
                                      have BK160 := n3_
                                      have BK176 := n4_
                                      have HL180_0 := n5_
                                      have HB := n6_
                                      have HO184 := n7_
                                      clear n0_ n1_ n2_ n3_ n4_ n5_ n6_ n7_
                                      clear ho hb hg hat
                                      refine hK.out _ _ ?_
                                      clear hK K
                                      refine norm_ (a' := ?_) ?_ ?_
                                      rotate_left
                                      · show Act.put _ (some 119) _ = _
                                        simp only [Act.put, List.setIfInBounds_toArray, List.set_cons_zero, List.set_cons_succ, i64_w, i32_w]
                                        rfl
                                      refine pure_ (i := 16) (N := some 15) (v := ?_) (a' := ?_) #[true, true, true, true, true, true, true, true, true, true, true, true, true, true, true, true, true] rfl rfl (any_of HT_.out (by kernel_rfl)) (fun _ _ _ h => h) (Or.inl ⟨by rfl, ?_⟩) ?_ ?_
                                      rotate_left
                                      · intro w'
                                        go_simp
                                        with_reducible rfl
                                      rotate_left
                                      · simp only [Act.put, List.setIfInBounds_toArray, List.set_cons_zero, List.set_cons_succ, i64_w, i32_w]
                                        rfl
                                      refine done_ (done_of HT_.out (by kernel_rfl)) ?_
                                      try go_wp2
                                      go_roundg k4
                                      case measure => have := HK1.out; have := HK2.out; have := HK3.out; have := HK4.out; omega
                                      case rel => exact ⟨(y182), (wrap64 (x17_4 - 1)), (by first | rfl | (simp; done) | (simp [*]; done)), H', ⟨by have := HK1.out; have := HK2.out; have := HK3.out; have := HK4.out; omega⟩, ⟨by (with_reducible repeat (first | apply Kd.R_alloc | apply Kd.R_drewN | apply Kd.R_drew)); exact HO184.out⟩, ⟨by (with_reducible repeat (first | apply Kd.V_alloc | apply Kd.V_drewN | apply Kd.V_drew)); exact Kd.V_mono HO_160003.out (fun _ hk => ⟨hk.1.1, ⟨hk.2, ⟨hk.1.2.1, ⟨hk.1.2.2.1, ⟨hk.1.2.2.2.1, hk.1.2.2.2.2⟩⟩⟩⟩⟩)⟩, ⟨by (with_reducible repeat (first | apply Kd.S_alloc | apply Kd.S_drewN | apply Kd.S_drew)); exact HO_177003.out⟩, ⟨by (with_reducible repeat (first | refine blk_drewN ?_ _ | refine blk_drew ?_ | refine blk_alloc ?_ _)); exact BK159.out⟩, ⟨by (with_reducible repeat (first | refine blk_drewN ?_ _ | refine blk_drew ?_ | refine blk_alloc ?_ _)); exact BK160.out⟩, ⟨by (with_reducible repeat (first | refine blk_drewN ?_ _ | refine blk_drew ?_ | refine blk_alloc ?_ _)); exact BK176.out⟩, ⟨by repeat (first | (with_reducible first | exact HB.out | apply below_alloc | apply pw_below_drewN | apply below_drew1 | refine below_set ?_ GE159.out | refine below_set ?_ GE160.out | refine below_set ?_ GE176.out) | exact HB.out)⟩⟩
                                    · rw [if_neg c70] at H
                                      exact absurd H (by simp)
                                  · rw [if_neg c69] at H
                                    exact absurd H (by simp)
                                · rw [if_neg c68] at H
                                  exact absurd H (by simp)
                              · rw [if_neg c66] at H
                                exact absurd H (by simp)
                            · rw [if_neg c65] at H
                              exact absurd H (by simp)
                          · rw [if_neg c64] at H
                            have c64b0 : decide (0 ≤ x17_4) = false := decide_eq_false c64
                            clear c64
                            have H' := Aside0.mk H
                            clear H
                            go_wp2
                            go_roundg k4
                            case measure => have := HK1.out; have := HK2.out; have := HK3.out; have := HK4.out; omega
                            case rel => exact ⟨(x15_4), (wrap64 (x16_3 + 1)), (by first | rfl | (simp; done) | (simp [*]; done)), H', ⟨by have := HK1.out; have := HK2.out; have := HK3.out; have := HK4.out; omega⟩, ⟨by (with_reducible repeat (first | apply Kd.R_alloc | apply Kd.R_drewN | apply Kd.R_drew)); exact HO_15.out⟩, ⟨by (with_reducible repeat (first | apply Kd.V_alloc | apply Kd.V_drewN | apply Kd.V_drew)); exact HO_160003.out⟩, ⟨by (with_reducible repeat (first | apply Kd.S_alloc | apply Kd.S_drewN | apply Kd.S_drew)); exact HO_177003.out⟩, ⟨by (with_reducible repeat (first | refine blk_drewN ?_ _ | refine blk_drew ?_ | refine blk_alloc ?_ _)); exact BK159.out⟩, ⟨by (with_reducible repeat (first | refine blk_drewN ?_ _ | refine blk_drew ?_ | refine blk_alloc ?_ _)); exact BK160.out⟩, ⟨by (with_reducible repeat (first | refine blk_drewN ?_ _ | refine blk_drew ?_ | refine blk_alloc ?_ _)); exact BK176.out⟩, ⟨by repeat (first | (with_reducible first | exact HB.out | apply below_alloc | apply pw_below_drewN | apply below_drew1 | refine below_set ?_ GE159.out | refine below_set ?_ GE160.out | refine below_set ?_ GE176.out) | exact HB.out)⟩⟩
                    · rw [if_neg c60] at H
                      have c60b0 : decide (x16_3 < x160001_1) = false := decide_eq_false c60
                      clear c60
                      by_cases c73 : x177003_2.length < 5864062014805
                      · rw [if_pos c73] at H
                        have LMc73 := Aside0.mk c73
                        clear c73
                        obtain ⟨y177, hy177⟩ : ∃ y_ : List (List Int), y_ = (x177003_2 ++ [x15_3]) := ⟨_, rfl⟩
                        replace H : (dioramaref15_turned.l4 k3 (wrap64 (x14_2 + 1)) x160000_1 x160001_1 x160002_1 x160003_1 x160000_1 x160001_1 x160002_1 y177) = some (r1, r2, r3, r4) := by first | (rw [hy177]; with_reducible exact H) | (have H2_ := (Option.bind_some _ _).symm.trans H; rw [hy177]; with_reducible exact H2_) | (have H2_ := (Option.bind_some _ _).symm.trans H; with_reducible exact H2_) | with_reducible exact H | (rw [hy177]; exact H) | exact H
                        have Ny177 := Aside0.mk hy177
                        clear hy177
                        have H' := Aside0.mk H
                        clear H
                        have hnb74 := NB159_160.out
                        have hnc74 := NB160_159.out
                        have hnb75 := NB159_176.out
                        have hnc75 := NB176_159.out
                        have hcz76_0 : wr.cell? ⟨gb159, 0, none⟩ = some (.int .i64 x160000_1) := (blk_cell BK159.out 0).trans rfl
                        have hcz76_1 : wr.cell? ⟨gb159, 1, none⟩ = some (.int .i64 x160001_1) := (blk_cell BK159.out 1).trans rfl
                        have hcz76_2 : wr.cell? ⟨gb159, 2, none⟩ = some (.int .i64 x160002_1) := (blk_cell BK159.out 2).trans rfl
                        have hcz76_3 : wr.cell? ⟨gb159, 3, none⟩ = some (.slice Ao59 x160003_1.length co59) := (blk_cell BK159.out 3).trans rfl
                        have hfz76_0 := blk_frozen BK159.out 0
                        have hfz76_1 := blk_frozen BK159.out 1
                        have hfz76_2 := blk_frozen BK159.out 2
                        have hfz76_3 := blk_frozen BK159.out 3
                        have hnb77 := NB176_160.out
                        have hnc77 := NB160_176.out
                        have hcz78_0 : wr.cell? ⟨gb176, 0, none⟩ = some (.int .i64 x160000_1) := (blk_cell BK176.out 0).trans rfl
                        have hcz78_1 : wr.cell? ⟨gb176, 1, none⟩ = some (.int .i64 x160001_1) := (blk_cell BK176.out 1).trans rfl
                        have hcz78_2 : wr.cell? ⟨gb176, 2, none⟩ = some (.int .i64 x160002_1) := (blk_cell BK176.out 2).trans rfl
                        have hcz78_3 : wr.cell? ⟨gb176, 3, none⟩ = some (u177003) := (blk_cell BK176.out 3).trans rfl
                        have hfz78_0 := blk_frozen BK176.out 0
                        have hfz78_1 := blk_frozen BK176.out 1
                        have hfz78_2 := blk_frozen BK176.out 2
                        have hfz78_3 := blk_frozen BK176.out 3
                        obtain ⟨Ao80, co80, eo80⟩ := Kd.R_slice HO_15.out
                        subst eo80
                        go_wp2_with (first | ((with_reducible refine gate_builtin (b := .append) (xs := #[.tmp 121, .tmp 123]) rfl ?_); at_builtin; refine Kd.S_append (Kd.slice 3 (Kd.int .i64)) (w0 := w) w.heap.size rfl (.tmp 121) (.tmp 123) 22 39 (.slice none 0 0) 24 rfl Tryz.underlying22 info39 rfl (by decide) (by omega) u177003 x177003_2 x15_3 [.slice Ao80 x15_3.length co80] (fun k_ => (w.heap.size ≤ k_)) (fun k_ => some k_ = (.slice Ao80 x15_3.length co80 : Value).ownBlock) rfl rfl ?aP (fun k_ hk_ => ((Kd.R_mono (ok' := fun k_ => ((fun k_ => (w.heap.size ≤ k_))) k_ ∧ some k_ ≠ (u177003 : Value).ownBlock) (Kd.R_apart' (HO_15.out) (Kd.S_typed HO_177003.out) (by decide)) (fun k_ hk => ⟨hk.1, hk.2⟩))).1 k_ hk_.symm) ?aF ?aO ?aB ?aS ?aL ?_; (case aP => exact Kd.M_row (Kd.R_mono (Kd.R_tight rfl (Kd.R_mono (ok' := fun k_ => ((fun k_ => (w.heap.size ≤ k_))) k_ ∧ some k_ ≠ (u177003 : Value).ownBlock) (Kd.R_apart' (HO_15.out) (Kd.S_typed HO_177003.out) (by decide)) (fun k_ hk => ⟨hk.1, hk.2⟩))) (fun _ h_ => h_))); (case aB => exact (by repeat (first | (with_reducible first | exact HB.out | apply below_alloc | apply pw_below_drewN | apply below_drew1 | refine below_set ?_ GE159.out | refine below_set ?_ GE160.out | refine below_set ?_ GE176.out) | exact HB.out))); (case aF => exact (fun k_ hk => (Nat.le_trans (below_size (by repeat (first | (with_reducible first | exact HB.out | apply below_alloc | apply pw_below_drewN | apply below_drew1 | refine below_set ?_ GE159.out | refine below_set ?_ GE160.out | refine below_set ?_ GE176.out) | exact HB.out))) hk))); (case aO => exact (by (with_reducible repeat (first | apply Kd.S_alloc | apply Kd.S_drewN | apply Kd.S_drew)); exact Kd.S_mono HO_177003.out (fun k_ hk => ⟨hk.1, fun e_ => hk.2 e_⟩))); (case aS => exact (below_size (by repeat (first | (with_reducible first | exact HB.out | apply below_alloc | apply pw_below_drewN | apply below_drew1 | refine below_set ?_ GE159.out | refine below_set ?_ GE160.out | refine below_set ?_ GE176.out) | exact HB.out)))); (case aL => have := LMc73.out; omega); intro v178 w79 ho hb hg hat; rw [← Ny177.out] at ho; have n0_ := Aside0.mk (Kd.V_afterv (ok := (fun k_ => (P0_3_ k_ ∨ w.heap.size ≤ k_) ∧ some k_ ≠ (.slice Ao80 x15_3.length co80 : Value).ownBlock ∧ k_ ≠ gb159 ∧ k_ ≠ gb160 ∧ k_ ≠ gb176)) (by (with_reducible repeat (first | apply Kd.V_alloc | apply Kd.V_drewN | apply Kd.V_drew)); exact Kd.V_mono HO_160003.out (fun _ hk => ⟨⟨hk.1, ⟨hk.2.1, ⟨hk.2.2.2.1, ⟨hk.2.2.2.2.1, hk.2.2.2.2.2⟩⟩⟩⟩, hk.2.2.1⟩)) hg hat); have n1_ := Aside0.mk (blk_grown (g := gb159) (o := .cells #[.int .i64 x160000_1, .int .i64 x160001_1, .int .i64 x160002_1, .slice Ao59 x160003_1.length co59] 24 (0, 0)) (by (with_reducible repeat (first | refine blk_drewN ?_ _ | refine blk_drew ?_ | refine blk_alloc ?_ _)); exact BK159.out) hg (Kd.S_ne HO_177003.out BK159.out (by decide))); have n2_ := Aside0.mk (blk_grown (g := gb160) (o := .cells #[.int .i64 0, .int .i64 0, .int .i64 0, .slice none 0 0] 24 (0, 0)) (by (with_reducible repeat (first | refine blk_drewN ?_ _ | refine blk_drew ?_ | refine blk_alloc ?_ _)); exact BK160.out) hg (Kd.S_ne HO_177003.out BK160.out (by decide))); have n3_ := Aside0.mk (blk_grown (g := gb176) (o := .cells #[.int .i64 x160000_1, .int .i64 x160001_1, .int .i64 x160002_1, u177003] 24 (0, 0)) (by (with_reducible repeat (first | refine blk_drewN ?_ _ | refine blk_drew ?_ | refine blk_alloc ?_ _)); exact BK176.out) hg (Kd.S_ne HO_177003.out BK176.out (by decide))); have n4_ := Aside0.mk (hb); have n5_ := Aside0.mk (ho); clear HO_160003; clear BK159; clear BK160; clear BK176; clear HB; clear HO_177003; clear HO_15; have HO_160003 := n0_; have BK159 := n1_; have BK160 := n2_; have BK176 := n3_; have HB := n4_; have HO179 := n5_; clear n0_ n1_ n2_ n3_ n4_ n5_; clear ho hb hg hat; obtain ⟨Ao81, co81, eo81⟩ := Kd.S_slice HO179.out; subst eo81; have hcz82_0 : w79.cell? ⟨gb176, 0, none⟩ = some (.int .i64 x160000_1) := (blk_cell BK176.out 0).trans rfl; have hcz82_1 : w79.cell? ⟨gb176, 1, none⟩ = some (.int .i64 x160001_1) := (blk_cell BK176.out 1).trans rfl; have hcz82_2 : w79.cell? ⟨gb176, 2, none⟩ = some (.int .i64 x160002_1) := (blk_cell BK176.out 2).trans rfl; have hcz82_3 : w79.cell? ⟨gb176, 3, none⟩ = some (u177003) := (blk_cell BK176.out 3).trans rfl; have hfz82_0 := blk_frozen BK176.out 0; have hfz82_1 := blk_frozen BK176.out 1; have hfz82_2 := blk_frozen BK176.out 2; have hfz82_3 := blk_frozen BK176.out 3))
                        go_roundg k3
                        case measure => have := HK1.out; have := HK2.out; have := HK3.out; omega
                        case rel => exact ⟨(wrap64 (x14_2 + 1)), (y177), (.slice Ao81 y177.length co81), (by first | rfl | (simp; done) | (simp [*]; done)), H', ⟨by have := HK1.out; have := HK2.out; have := HK3.out; omega⟩, ⟨by (with_reducible repeat (first | apply Kd.V_alloc | apply Kd.V_drewN | apply Kd.V_drew)); exact Kd.V_mono (Kd.V_far (p := ⟨gb176, 3, none⟩) (Kd.V_mono HO_160003.out (fun k_ hk => (⟨hk, hk.1.2.2.2.2⟩ : _ ∧ k_ ≠ gb176))) (fun _ hk => hk.2) (.slice Ao81 y177.length co81)) (fun _ hk => ⟨hk.1.1.1, ⟨hk.1.2, ⟨hk.1.1.2.2.1, ⟨hk.1.1.2.2.2.1, hk.1.1.2.2.2.2⟩⟩⟩⟩)⟩, ⟨by (with_reducible repeat (first | apply Kd.S_alloc | apply Kd.S_drewN | apply Kd.S_drew)); exact Kd.S_mono (Kd.S_far (p := ⟨gb176, 3, none⟩) (Kd.S_types HO179.out BK176.out (by decide)) (fun _ hk => hk.2) (.slice Ao81 y177.length co81)) (fun _ hk => hk.1)⟩, ⟨by (with_reducible repeat (first | refine blk_drewN ?_ _ | refine blk_drew ?_ | refine blk_alloc ?_ _)); refine blk_far ?_ NB159_176.out _; (with_reducible repeat (first | refine blk_drewN ?_ _ | refine blk_drew ?_ | refine blk_alloc ?_ _)); exact BK159.out⟩, ⟨by (with_reducible repeat (first | refine blk_drewN ?_ _ | refine blk_drew ?_ | refine blk_alloc ?_ _)); refine blk_far ?_ NB160_176.out _; (with_reducible repeat (first | refine blk_drewN ?_ _ | refine blk_drew ?_ | refine blk_alloc ?_ _)); exact BK160.out⟩, ⟨by (with_reducible repeat (first | refine blk_drewN ?_ _ | refine blk_drew ?_ | refine blk_alloc ?_ _)); refine blk_put (cs := #[.int .i64 x160000_1, .int .i64 x160001_1, .int .i64 x160002_1, u177003]) ?_ 3 _ rfl; (with_reducible repeat (first | refine blk_drewN ?_ _ | refine blk_drew ?_ | refine blk_alloc ?_ _)); exact BK176.out⟩, ⟨by repeat (first | (with_reducible first | exact HB.out | apply below_alloc | apply pw_below_drewN | apply below_drew1 | refine below_set ?_ GE159.out | refine below_set ?_ GE160.out | refine below_set ?_ GE176.out) | exact HB.out)⟩⟩
                      · rw [if_neg c73] at H
                        exact absurd H (by simp)
              · rw [if_neg c55] at H
                have c55b0 : decide (x14_2 < (x160003_1.length : Int)) = false := decide_eq_false c55
                clear c55
                simp only [Option.some.injEq, Prod.mk.injEq] at H
                obtain ⟨rfl, rfl, rfl, rfl⟩ := H
                have hnb83 := NB159_160.out
                have hnc83 := NB160_159.out
                have hnb84 := NB159_176.out
                have hnc84 := NB176_159.out
                have hcz85_0 : wr.cell? ⟨gb159, 0, none⟩ = some (.int .i64 x160000_1) := (blk_cell BK159.out 0).trans rfl
                have hcz85_1 : wr.cell? ⟨gb159, 1, none⟩ = some (.int .i64 x160001_1) := (blk_cell BK159.out 1).trans rfl
                have hcz85_2 : wr.cell? ⟨gb159, 2, none⟩ = some (.int .i64 x160002_1) := (blk_cell BK159.out 2).trans rfl
                have hcz85_3 : wr.cell? ⟨gb159, 3, none⟩ = some (u160003) := (blk_cell BK159.out 3).trans rfl
                have hfz85_0 := blk_frozen BK159.out 0
                have hfz85_1 := blk_frozen BK159.out 1
                have hfz85_2 := blk_frozen BK159.out 2
                have hfz85_3 := blk_frozen BK159.out 3
                obtain ⟨Ao86, co86, eo86⟩ := Kd.V_slice HO_160003.out
                subst eo86
                have hnb87 := NB176_160.out
                have hnc87 := NB160_176.out
                have hcz88_0 : wr.cell? ⟨gb176, 0, none⟩ = some (.int .i64 x160000_1) := (blk_cell BK176.out 0).trans rfl
                have hcz88_1 : wr.cell? ⟨gb176, 1, none⟩ = some (.int .i64 x160001_1) := (blk_cell BK176.out 1).trans rfl
                have hcz88_2 : wr.cell? ⟨gb176, 2, none⟩ = some (.int .i64 x160002_1) := (blk_cell BK176.out 2).trans rfl
                have hcz88_3 : wr.cell? ⟨gb176, 3, none⟩ = some (u177003) := (blk_cell BK176.out 3).trans rfl
                have hfz88_0 := blk_frozen BK176.out 0
                have hfz88_1 := blk_frozen BK176.out 1
                have hfz88_2 := blk_frozen BK176.out 2
                have hfz88_3 := blk_frozen BK176.out 3
                have hcz89_0 : wr.cell? ⟨gb160, 0, none⟩ = some (.int .i64 0) := (blk_cell BK160.out 0).trans rfl
                have hcz89_1 : wr.cell? ⟨gb160, 1, none⟩ = some (.int .i64 0) := (blk_cell BK160.out 1).trans rfl
                have hcz89_2 : wr.cell? ⟨gb160, 2, none⟩ = some (.int .i64 0) := (blk_cell BK160.out 2).trans rfl
                have hcz89_3 : wr.cell? ⟨gb160, 3, none⟩ = some (.slice none 0 0) := (blk_cell BK160.out 3).trans rfl
                have hfz89_0 := blk_frozen BK160.out 0
                have hfz89_1 := blk_frozen BK160.out 1
                have hfz89_2 := blk_frozen BK160.out 2
                have hfz89_3 := blk_frozen BK160.out 3
                obtain ⟨Ao90, co90, eo90⟩ := Kd.S_slice HO_177003.out
                subst eo90
                go_wp2
                refine bodyPost_ret (results_cell_row rfl _ _ gb160 24 #[.int .i64 x160000_1, .int .i64 x160001_1, .int .i64 x160002_1, .slice Ao90 x177003_2.length co90] (0, 0) _ rfl (by (with_reducible repeat (first | refine blk_drewN ?_ _ | refine blk_drew ?_ | refine blk_alloc ?_ _)); refine blk_put (cs := #[.int .i64 x160000_1, .int .i64 x160001_1, .int .i64 x160002_1, .slice none 0 0]) ?_ 3 _ rfl; (with_reducible repeat (first | refine blk_drewN ?_ _ | refine blk_drew ?_ | refine blk_alloc ?_ _)); refine blk_put (cs := #[.int .i64 x160000_1, .int .i64 x160001_1, .int .i64 0, .slice none 0 0]) ?_ 2 _ rfl; (with_reducible repeat (first | refine blk_drewN ?_ _ | refine blk_drew ?_ | refine blk_alloc ?_ _)); refine blk_put (cs := #[.int .i64 x160000_1, .int .i64 0, .int .i64 0, .slice none 0 0]) ?_ 1 _ rfl; (with_reducible repeat (first | refine blk_drewN ?_ _ | refine blk_drew ?_ | refine blk_alloc ?_ _)); refine blk_put (cs := #[.int .i64 0, .int .i64 0, .int .i64 0, .slice none 0 0]) ?_ 0 _ rfl; (with_reducible repeat (first | refine blk_drewN ?_ _ | refine blk_drew ?_ | refine blk_alloc ?_ _)); exact BK160.out) Tryz.underlying24 rfl (by kernel_rfl)) rfl ?_
                exact ⟨_, by first | rfl | (simp [errW_none, errW_some] <;> rfl) | (simp [*, errW_none, errW_some] <;> rfl), by (with_reducible repeat (first | apply Kd.S_alloc | apply Kd.S_drewN | apply Kd.S_drew)); exact Kd.S_mono (Kd.S_far (p := ⟨gb160, 3, none⟩) (Kd.S_far (p := ⟨gb160, 2, none⟩) (Kd.S_far (p := ⟨gb160, 1, none⟩) (Kd.S_far (p := ⟨gb160, 0, none⟩) (Kd.S_types HO_177003.out BK160.out (by decide)) (fun _ hk => hk.2) (.int .i64 x160000_1)) (fun _ hk => hk.2) (.int .i64 x160001_1)) (fun _ hk => hk.2) (.int .i64 x160002_1)) (fun _ hk => hk.2) (.slice Ao90 x177003_2.length co90)) (fun _ hk => hk.1), by repeat (first | (with_reducible first | exact HB.out | apply below_alloc | apply pw_below_drewN | apply below_drew1 | refine below_set ?_ GE159.out | refine below_set ?_ GE160.out | refine below_set ?_ GE176.out) | exact HB.out)⟩
        · replace c48 := Bool.eq_false_iff.mpr c48
          subst c48
          have H1 : ((dioramaref00_CopyImage.f k1 x160000_1 x160001_1 x160002_1 x160003_1).bind fun bt170 => (some (bt170.1, bt170.2.1, bt170.2.2.1, bt170.2.2.2))) = some (r1, r2, r3, r4) := by rw [if_neg (show ¬ (false = true) by decide)] at H; exact H
          clear H
          have H := H1
          clear H1
          replace H := Option.bind_eq_some_iff.mp H
          obtain ⟨⟨t170, t171, t172, t173⟩, A910, H⟩ := H
          replace H : (some (t170, t171, t172, t173)) = some (r1, r2, r3, r4) := H
          have A91 := Aside0.mk A910
          clear A910
          simp only [Option.some.injEq, Prod.mk.injEq] at H
          obtain ⟨rfl, rfl, rfl, rfl⟩ := H
          have hnb92 := NB159_160.out
          have hnc92 := NB160_159.out
          have hcz93_0 : wr.cell? ⟨gb159, 0, none⟩ = some (.int .i64 x160000_1) := (blk_cell BK159.out 0).trans rfl
          have hcz93_1 : wr.cell? ⟨gb159, 1, none⟩ = some (.int .i64 x160001_1) := (blk_cell BK159.out 1).trans rfl
          have hcz93_2 : wr.cell? ⟨gb159, 2, none⟩ = some (.int .i64 x160002_1) := (blk_cell BK159.out 2).trans rfl
          have hcz93_3 : wr.cell? ⟨gb159, 3, none⟩ = some (u160003) := (blk_cell BK159.out 3).trans rfl
          have hfz93_0 := blk_frozen BK159.out 0
          have hfz93_1 := blk_frozen BK159.out 1
          have hfz93_2 := blk_frozen BK159.out 2
          have hfz93_3 := blk_frozen BK159.out 3
          obtain ⟨Ao94, co94, eo94⟩ := Kd.V_slice HO_160003.out
          subst eo94
          go_wp2_with (first | ((with_reducible refine gate_callee (f := 24) rfl ?_); refine goesL_ (some 76) rfl rfl Tryz.func24 (by kernel_rfl) rfl #[.agg #[.int .i64 x160000_1, .int .i64 x160001_1, .int .i64 x160002_1, .slice Ao94 x160003_1.length co94]] rfl (by (try simp only [List.map_toArray, List.map_cons, List.map_nil]); first | done | rfl | (simp only [List.length_drop, List.length_take]; rfl)) ?_; (with_reducible refine (dioramaref00_CopyImage.calls k1 x160000_1 x160001_1 x160002_1 _ _ x160003_1 t170 t171 t172 t173 _ ?side1 ?side2 A91.out).mono ?_); (case side1 => repeat (first | exact (Kd.V_reads' HO_160003.out).2.2 | (with_reducible refine Kd.C_alloc ?_ _) | (with_reducible refine Kd.C_drewN ?_ _) | (with_reducible refine Kd.C_drew ?_))); (case side2 => exact (Kd.V_reads' HO_160003.out).2.1); rintro e w95 ⟨v174, rfl, ho0, hb⟩; refine ⟨_, rfl, ?_⟩; have n0_ := Aside0.mk (Kd.V_elder' (by (with_reducible repeat (first | apply Kd.V_alloc | apply Kd.V_drewN | apply Kd.V_drew)); exact HO_160003.out) (Kd.S_base ho0) hb); have n1_ := Aside0.mk (Kd.S_lower (Kd.S_newM (M := fun k_ => (w.heap.size ≤ k_)) ho0 (below_size (by repeat (first | (with_reducible first | exact HB.out | apply below_alloc | apply pw_below_drewN | apply below_drew1 | refine below_set ?_ GE159.out | refine below_set ?_ GE160.out) | exact HB.out))) (fun k_ h_ => h_)) (below_size (by repeat (first | (with_reducible first | exact HB.out | apply below_alloc | apply pw_below_drewN | apply below_drew1 | refine below_set ?_ GE159.out | refine below_set ?_ GE160.out) | exact HB.out)))); have n2_ := Aside0.mk (blk_below (g := gb159) (o := .cells #[.int .i64 x160000_1, .int .i64 x160001_1, .int .i64 x160002_1, .slice Ao94 x160003_1.length co94] 24 (0, 0)) (by (with_reducible repeat (first | refine blk_drewN ?_ _ | refine blk_drew ?_ | refine blk_alloc ?_ _)); exact BK159.out) hb); have n3_ := Aside0.mk (blk_below (g := gb160) (o := .cells #[.int .i64 0, .int .i64 0, .int .i64 0, .slice none 0 0] 24 (0, 0)) (by (with_reducible repeat (first | refine blk_drewN ?_ _ | refine blk_drew ?_ | refine blk_alloc ?_ _)); exact BK160.out) hb); have n4_ := Aside0.mk (below_step (by repeat (first | (with_reducible first | exact HB.out | apply below_alloc | apply pw_below_drewN | apply below_drew1 | refine below_set ?_ GE159.out | refine below_set ?_ GE160.out) | exact HB.out)) hb); clear HO_160003; clear BK159; clear BK160; clear HB; have HO_160003 := n0_; have HO175 := n1_; have BK159 := n2_; have BK160 := n3_; have HB := n4_; clear n0_ n1_ n2_ n3_ n4_; (try clear hb); (try clear hb2); (try clear hk); (try clear hi); (try clear ho0); have hcz96_0 : w95.cell? ⟨gb160, 0, none⟩ = some (.int .i64 0) := (blk_cell BK160.out 0).trans rfl; have hcz96_1 : w95.cell? ⟨gb160, 1, none⟩ = some (.int .i64 0) := (blk_cell BK160.out 1).trans rfl; have hcz96_2 : w95.cell? ⟨gb160, 2, none⟩ = some (.int .i64 0) := (blk_cell BK160.out 2).trans rfl; have hcz96_3 : w95.cell? ⟨gb160, 3, none⟩ = some (.slice none 0 0) := (blk_cell BK160.out 3).trans rfl; have hfz96_0 := blk_frozen BK160.out 0; have hfz96_1 := blk_frozen BK160.out 1; have hfz96_2 := blk_frozen BK160.out 2; have hfz96_3 := blk_frozen BK160.out 3; obtain ⟨Ao97, co97, eo97⟩ := Kd.S_slice HO175.out; subst eo97))
          refine bodyPost_ret (results_cell_row rfl _ _ gb160 24 #[.int .i64 t170, .int .i64 t171, .int .i64 t172, .slice Ao97 t173.length co97] (0, 0) _ rfl (by (with_reducible repeat (first | refine blk_drewN ?_ _ | refine blk_drew ?_ | refine blk_alloc ?_ _)); refine blk_put (cs := #[.int .i64 t170, .int .i64 t171, .int .i64 t172, .slice none 0 0]) ?_ 3 _ rfl; (with_reducible repeat (first | refine blk_drewN ?_ _ | refine blk_drew ?_ | refine blk_alloc ?_ _)); refine blk_put (cs := #[.int .i64 t170, .int .i64 t171, .int .i64 0, .slice none 0 0]) ?_ 2 _ rfl; (with_reducible repeat (first | refine blk_drewN ?_ _ | refine blk_drew ?_ | refine blk_alloc ?_ _)); refine blk_put (cs := #[.int .i64 t170, .int .i64 0, .int .i64 0, .slice none 0 0]) ?_ 1 _ rfl; (with_reducible repeat (first | refine blk_drewN ?_ _ | refine blk_drew ?_ | refine blk_alloc ?_ _)); refine blk_put (cs := #[.int .i64 0, .int .i64 0, .int .i64 0, .slice none 0 0]) ?_ 0 _ rfl; (with_reducible repeat (first | refine blk_drewN ?_ _ | refine blk_drew ?_ | refine blk_alloc ?_ _)); exact BK160.out) Tryz.underlying24 rfl (by kernel_rfl)) rfl ?_
          exact ⟨_, by first | rfl | (simp [errW_none, errW_some] <;> rfl) | (simp [*, errW_none, errW_some] <;> rfl), by (with_reducible repeat (first | apply Kd.S_alloc | apply Kd.S_drewN | apply Kd.S_drew)); exact Kd.S_mono (Kd.S_far (p := ⟨gb160, 3, none⟩) (Kd.S_far (p := ⟨gb160, 2, none⟩) (Kd.S_far (p := ⟨gb160, 1, none⟩) (Kd.S_far (p := ⟨gb160, 0, none⟩) (Kd.S_types HO175.out BK160.out (by decide)) (fun _ hk => hk.2) (.int .i64 t170)) (fun _ hk => hk.2) (.int .i64 t171)) (fun _ hk => hk.2) (.int .i64 t172)) (fun _ hk => hk.2) (.slice Ao97 t173.length co97)) (fun _ hk => hk.1.1), by repeat (first | (with_reducible first | exact HB.out | apply below_alloc | apply pw_below_drewN | apply below_drew1 | refine below_set ?_ GE159.out | refine below_set ?_ GE160.out) | exact HB.out)⟩
end Go.Proofs.YtphkionjjhhhlaaGreat.Q
end
section
namespace Go.Proofs.YtphkionjjhhhlaaGreat.Q
open Go.RowKit Go.Proofs.YtphkionjjhhhlaaGreatW.PrintWords Go.Proofs.YtphkionjjhhhlaaGreatW.PrintLast Go.Proofs.YtphkionjjhhhlaaGreatW.PrintMore
theorem w64_nat (n : Nat) (h : n ≤ 1000000000000) : wrap64 (n : Int) = (n : Int) := by unfold wrap64; omega
theorem rd_nat (row : List Int) (n : Nat) : rd row (n : Int) = row.getD n 0 := rfl
theorem idx_lt (w h z y : Nat) (hz : z < h) (hy : y < w) : z * w + y < w * h := by
  have : z * w + w ≤ w * h := by rw [← Nat.succ_mul, Nat.mul_comm w h]; exact Nat.mul_le_mul_right _ hz
  omega
section
variable (w h : Nat) (hw : 1 ≤ w ∧ w ≤ 1000) (hh : 1 ≤ h ∧ h ≤ 1000) (c : Int) (ps : List (List Int)) (q i : Int) (fl : Bool) (o1 o2 o3 : Int)
include hw hh in
theorem t_l3 (p : Nat) (row : List Int) (hrow : ps[p]? = some row) (hp : p < 1000) (hrl : row.length = w * h) (out : List (List Int)) (y : Nat) (hy : y < w) (R : Option (Int × Int × Int × List (List Int))) :
    ∀ (z : Nat) (acc : List Int), z ≤ h → acc.length + z ≤ 10000000 → (Ev fun k => dioramaref15_turned.l2 k q fl i p (acc ++ colD w row y z) ((y + 1 : Nat) : Int) w h c ps o1 o2 o3 out = R) →
      Ev fun k => dioramaref15_turned.l3 k q fl i p acc y ((z : Int) - 1) w h c ps o1 o2 o3 out = R := by
  have hpl := (List.getElem?_eq_some_iff.1 hrow).1
  have hN : w * h ≤ 1000 * 1000 := Nat.mul_le_mul hw.2 hh.2
  intro z
  induction z with
  | zero =>
    intro acc _ _ hR
    refine Ev.step (fun k => ?_) hR
    rw [dioramaref15_turned.l3, if_neg (by omega), w64_succ y (by omega)]
    simp [colD]
  | succ z ih =>
    intro acc hz ha hR
    refine Ev.step (fun k => ?_) (ih (acc ++ [row.getD (z * w + y) 0]) (by omega) (by simp; omega) (by simpa [colD] using hR))
    have hi := idx_lt w h z y (by omega) hy
    have e1 : wrap64 (((z + 1 : Nat) : Int) - 1) = (z : Int) := by unfold wrap64; omega
    have e2 : wrap64 ((((z + 1 : Nat) : Int) - 1) * (w : Int)) = ((z * w : Nat) : Int) := by
      rw [show (((z + 1 : Nat) : Int) - 1) = (z : Int) by omega, ← Int.natCast_mul]
      exact w64_nat _ (by omega)
    have e3 : wrap64 (((z * w : Nat) : Int) + (y : Int)) = ((z * w + y : Nat) : Int) := by rw [← Int.natCast_add]; exact w64_nat _ (by omega)
    have e4 : wrap64 ((((z + 1 : Nat) : Int) - 1) - 1) = (z : Int) - 1 := by unfold wrap64; omega
    have c1 : (0 : Int) ≤ (((z * w + y) : Nat) : Int) := Int.natCast_nonneg _
    have c2 : (((z * w + y) : Nat) : Int) < (row.length : Int) := Int.ofNat_lt.2 (by rw [hrl]; exact hi)
    have c3 : acc.length < 17592186044416 := by omega
    rw [dioramaref15_turned.l3, if_pos (by omega), if_pos (by omega), if_pos (by omega), e2, e3, rdL1_at ps p row hrow, if_pos c1, if_pos c2, if_pos c3, e4, rd_nat]
include hw hh in
theorem t_l2 (p : Nat) (row : List Int) (hrow : ps[p]? = some row) (hp : p < 1000) (hrl : row.length = w * h) (out : List (List Int)) (ho : out.length ≤ 1000) (R : Option (Int × Int × Int × List (List Int))) :
    ∀ (n y : Nat) (acc : List Int), y + n = w → acc.length + n * h ≤ 5000000 → (Ev fun k => dioramaref15_turned.l1 k q fl i ((p + 1 : Nat) : Int) w h c ps o1 o2 o3 (out ++ [acc ++ rowsD w h row n y]) = R) →
      Ev fun k => dioramaref15_turned.l2 k q fl i p acc y w h c ps o1 o2 o3 out = R := by
  intro n
  induction n with
  | zero =>
    intro y acc hy _ hR
    refine Ev.step (fun k => ?_) hR
    rw [dioramaref15_turned.l2, if_neg (by omega), if_pos (by omega), w64_succ p (by omega)]
    simp [rowsD]
  | succ n ih =>
    intro y acc hy ha hR
    rw [Nat.add_mul, Nat.one_mul] at ha
    refine Ev.step (fun k => ?_) (t_l3 w h hw hh c ps q i fl o1 o2 o3 p row hrow hp hrl out y (by omega) R h acc (Nat.le_refl _) (by omega) (ih (y + 1) (acc ++ colD w row y h) (by omega) (by rw [List.length_append, colD_length]; omega) (by rw [List.append_assoc]; exact hR)))
    rw [dioramaref15_turned.l2, if_pos (by omega), show wrap64 ((h : Int) - 1) = (h : Int) - 1 by unfold wrap64; omega]
include hw hh in
theorem t_l1 (hr : ∀ r ∈ ps, r.length = w * h) (hn : ps.length ≤ 900) (R : Option (Int × Int × Int × List (List Int))) :
    ∀ (n p : Nat) (out : List (List Int)), p + n = ps.length → out.length = p → (Ev fun k => dioramaref15_turned.l0 k q fl (wrap64 (i + 1)) o1 o2 o3 (out ++ (ps.drop p).map (rot1 w h)) = R) →
      Ev fun k => dioramaref15_turned.l1 k q fl i p w h c ps o1 o2 o3 out = R := by
  have hN : w * h ≤ 1000 * 1000 := Nat.mul_le_mul hw.2 hh.2
  intro n
  induction n with
  | zero =>
    intro p out hp _ hR
    refine Ev.step (fun k => ?_) hR
    rw [dioramaref15_turned.l1, if_neg (by omega), List.drop_eq_nil_of_le (by omega)]
    simp
  | succ n ih =>
    intro p out hp ho hR
    have hpl : p < ps.length := by omega
    have hx : ps[p]? = some ps[p] := List.getElem?_eq_getElem hpl
    refine Ev.step (fun k => ?_) (t_l2 w h hw hh c ps q i fl o1 o2 o3 p _ hx (by omega) (hr _ (List.getElem_mem hpl)) out (by omega) R w 0 [] (by omega) (by simp; omega) (ih (p + 1) _ (by omega) (by simp; omega) ?_))
    · rw [dioramaref15_turned.l1, if_pos (by omega), show (0 : Int) = ((0 : Nat) : Int) from rfl]
    · rw [drop_at ps p _ hx, List.map_cons, rot1_is w h _ (by omega)] at hR
      rw [List.nil_append, List.append_assoc]
      exact hR
include hw hh in
theorem t_l6 (p : Nat) (row : List Int) (hrow : ps[p]? = some row) (hp : p < 1000) (hrl : row.length = w * h) (out : List (List Int)) (y : Nat) (hy : y < h) (R : Option (Int × Int × Int × List (List Int))) :
    ∀ (z : Nat) (acc : List Int), z ≤ w → acc.length + z ≤ 10000000 → (Ev fun k => dioramaref15_turned.l5 k p (acc ++ rowR w row y z) ((y + 1 : Nat) : Int) w h c ps o1 o2 o3 out = R) →
      Ev fun k => dioramaref15_turned.l6 k p acc y ((z : Int) - 1) w h c ps o1 o2 o3 out = R := by
  have hpl := (List.getElem?_eq_some_iff.1 hrow).1
  have hN : w * h ≤ 1000 * 1000 := Nat.mul_le_mul hw.2 hh.2
  intro z
  induction z with
  | zero =>
    intro acc _ _ hR
    refine Ev.step (fun k => ?_) hR
    rw [dioramaref15_turned.l6, if_neg (by omega), w64_succ y (by omega)]
    simp [rowR]
  | succ z ih =>
    intro acc hz ha hR
    refine Ev.step (fun k => ?_) (ih (acc ++ [row.getD (y * w + z) 0]) (by omega) (by simp; omega) (by simpa [rowR] using hR))
    have p1 : ((z + 1 : Nat) : Int) - 1 ≥ 0 := by omega
    have p2 : (0 : Int) ≤ (p : Int) := by omega
    have p3 : (p : Int) < (ps.length : Int) := by omega
    have c3 : acc.length < 17592186044416 := by omega
    have e5 : (((z + 1 : Nat) : Int) - 1) = (z : Int) := by omega
    have e4 : wrap64 ((((z + 1 : Nat) : Int) - 1) - 1) = (z : Int) - 1 := by clear hR ih; unfold wrap64; omega
    have hi := idx_lt w h y z hy (by omega)
    obtain ⟨m, hm⟩ : ∃ m, m = y * w := ⟨_, rfl⟩
    have hmul : (y : Int) * (w : Int) = (m : Int) := by rw [← Int.natCast_mul, hm]
    rw [← hm] at hi ⊢
    have hml : m + z ≤ 1000000000000 := Nat.le_trans (Nat.le_of_lt hi) (Nat.le_trans hN (by decide))
    have hm2 : m ≤ 1000000000000 := Nat.le_trans (Nat.le_add_right m z) hml
    have e2 : wrap64 (m : Int) = (m : Int) := w64_nat m hm2
    have e3 : wrap64 ((m : Int) + (z : Int)) = ((m + z : Nat) : Int) := by rw [← Int.natCast_add]; exact w64_nat _ hml
    have c1 : (0 : Int) ≤ ((m + z : Nat) : Int) := Int.natCast_nonneg _
    have c2 : ((m + z : Nat) : Int) < (row.length : Int) := Int.ofNat_lt.2 (by rw [hrl]; exact hi)
    rw [dioramaref15_turned.l6, if_pos p1, if_pos p2, if_pos p3, e4, e5, hmul, e2, e3, rdL1_at ps p row hrow, if_pos c1, if_pos c2, if_pos c3, rd_nat]
include hw hh in
theorem t_l5 (p : Nat) (row : List Int) (hrow : ps[p]? = some row) (hp : p < 1000) (hrl : row.length = w * h) (out : List (List Int)) (ho : out.length ≤ 1000) (R : Option (Int × Int × Int × List (List Int))) :
    ∀ (n y : Nat) (acc : List Int), y + n = h → acc.length + n * w ≤ 5000000 → (Ev fun k => dioramaref15_turned.l4 k ((p + 1 : Nat) : Int) w h c ps o1 o2 o3 (out ++ [acc ++ rowsR w row n y]) = R) →
      Ev fun k => dioramaref15_turned.l5 k p acc y w h c ps o1 o2 o3 out = R := by
  intro n
  induction n with
  | zero =>
    intro y acc hy _ hR
    refine Ev.step (fun k => ?_) hR
    rw [dioramaref15_turned.l5, if_neg (by omega), if_pos (by omega), w64_succ p (by omega)]
    simp [rowsR]
  | succ n ih =>
    intro y acc hy ha hR
    rw [Nat.add_mul, Nat.one_mul] at ha
    refine Ev.step (fun k => ?_) (t_l6 w h hw hh c ps o1 o2 o3 p row hrow hp hrl out y (by omega) R w acc (Nat.le_refl _) (by omega) (ih (y + 1) (acc ++ rowR w row y w) (by omega) (by rw [List.length_append, rowR_length]; omega) (by rw [List.append_assoc]; exact hR)))
    rw [dioramaref15_turned.l5, if_pos (by omega), show wrap64 ((w : Int) - 1) = (w : Int) - 1 by unfold wrap64; omega]
include hw hh in
theorem t_l4 (hr : ∀ r ∈ ps, r.length = w * h) (hn : ps.length ≤ 900) :
    ∀ (n p : Nat) (out : List (List Int)), p + n = ps.length → out.length = p →
      Ev fun k => dioramaref15_turned.l4 k p w h c ps o1 o2 o3 out = some (o1, o2, o3, out ++ (ps.drop p).map (flipP w h)) := by
  have hN : w * h ≤ 1000 * 1000 := Nat.mul_le_mul hw.2 hh.2
  intro n
  induction n with
  | zero =>
    intro p out hp _
    refine Ev.const (fun k => ?_)
    rw [dioramaref15_turned.l4, if_neg (by omega), List.drop_eq_nil_of_le (by omega)]
    simp
  | succ n ih =>
    intro p out hp ho
    have hpl : p < ps.length := by omega
    have hx : ps[p]? = some ps[p] := List.getElem?_eq_getElem hpl
    have hlen := hr _ (List.getElem_mem hpl)
    have h1 := ih (p + 1) (out ++ [rowsR w ps[p] h 0]) (by omega) (by simp; omega)
    rw [List.append_assoc, ← flipP_is w h _ (by omega) hlen] at h1
    have e : out ++ (ps.drop p).map (flipP w h) = out ++ ([flipP w h ps[p]] ++ (ps.drop (p + 1)).map (flipP w h)) := by rw [drop_at ps p _ hx]; rfl
    rw [e]
    refine Ev.step (fun k => ?_) (t_l5 w h hw hh c ps o1 o2 o3 p _ hx (by omega) hlen out (by omega) _ h 0 [] (by omega) (by simp; rw [Nat.mul_comm]; omega) (by rw [List.nil_append, ← flipP_is w h _ (by omega) hlen]; exact h1))
    rw [dioramaref15_turned.l4, if_pos (by omega), show (0 : Int) = ((0 : Nat) : Int) from rfl]
end
end Go.Proofs.YtphkionjjhhhlaaGreat.Q
end
section
namespace Go.Proofs.YtphkionjjhhhlaaGreat.Q
open Go.RowKit Go.Proofs.YtphkionjjhhhlaaGreatW.PrintWords Go.Proofs.YtphkionjjhhhlaaGreatW.PrintLast Go.Proofs.YtphkionjjhhhlaaGreatW.PrintMore
def item_clone.f (a0_0 a0_1 a0_2 : Int) (l0_3 : List (List Int)) : Option (Int × Int × Int × List (List Int)) :=
  if l0_3.length < 5864062014805 ∧ (l0_3.all fun p => decide (p.length < 17592186044416)) = true then some (a0_0, a0_1, a0_2, l0_3) else none
def item_clone.T5 : Bool × List (List Nat × List Nat) := (true, [([], []), ([0], [0]), ([], []), ([], []), ([3], [3]), ([], []), ([4, 5], [4, 5]), ([6], [6]), ([7], [7]), ([1, 2, 0, 1, 2, 3, 4, 5, 6, 7, 8], [1, 2]), ([9, 8, 8, 0, 1, 2, 3, 4, 5, 6, 7, 8], [8, 9])])
def item_clone.B5 : List Nat := [0, 1, 0, 0, 8, 0, 56, 120, 248, 511, 1023]
theorem item_clone.tab5 : rtab .any (opsOf Tryz.f67 5) = item_clone.T5 := by kernel_rfl
theorem item_clone.bits5 : waitsOk item_clone.T5.2 item_clone.B5 = true := by kernel_rfl
set_option maxHeartbeats 16000000 in
set_option maxRecDepth 100000 in
theorem item_clone.calls (a0_0 : Int) (a0_1 : Int) (a0_2 : Int) (A0_3 : Option Addr) (c0_3 : Nat) (l0_3 : List (List Int)) (r1 : Int) (r2 : Int) (r3 : Int) (r4 : List (List Int)) (w : World) (hr0_3 : Kd.C (Kd.slice 3 (Kd.int .i64)) w A0_3 l0_3.length l0_3) (hc0_3 : l0_3.length ≤ c0_3) (h : item_clone.f a0_0 a0_1 a0_2 l0_3 = some (r1, r2, r3, r4)) :
    Calls Tryz.prog 67 #[.agg #[.int .i64 a0_0, .int .i64 a0_1, .int .i64 a0_2, .slice A0_3 l0_3.length c0_3]] w fun e w' => ∃ v3_ : Value, e = .returned (.agg #[.int .i64 r1, .int .i64 r2, .int .i64 r3, v3_]) ∧ Kd.S (Kd.slice 3 (Kd.int .i64)) 39 w' w.heap.size (fun _ => True) v3_ r4 ∧ Below w.heap.size w w' := by
  unfold item_clone.f at h
  split at h
  case isFalse => cases h
  case isTrue hk =>
  injection h with h
  injection h with h1 h2
  injection h2 with h2 h3
  injection h3 with h3 h4
  subst h1; subst h2; subst h3; subst h4
  have hu24 := Tryz.underlying24
  have HK := Aside0.mk hk
  have HR := Aside0.mk hr0_3
  clear hk hr0_3 hc0_3
  go_enter Tryz.func67, Tryz.ntmps67
  go_wp2_with (first | ((with_reducible refine gate_dst (N := 1) rfl ?_); refine box_event ?hg (N := 1) ?hd (cs := #[.int .i64 a0_0, .int .i64 a0_1, .int .i64 a0_2, .slice A0_3 l0_3.length c0_3]) (t := 24) ?hr ?_; (case hd => rfl); (case hg => rfl); (case hr => first | (go_simp; done) | (go_simp; rfl)); intro gb hggb w2 hboxgb hbgb; have BKb := Aside0.mk hboxgb; have HBb := Aside0.mk hbgb; have hgle : Aside0 (w.heap.size ≤ gb ∧ gb < w2.heap.size) := ⟨by omega, blk_lt hboxgb⟩; clear hboxgb hbgb hggb) | ((with_reducible refine gate_dst (N := 2) rfl ?_); refine box_event ?hg (N := 2) ?hd (cs := #[.int .i64 0, .int .i64 0, .int .i64 0, .slice none 0 0]) (t := 24) ?hr ?_; (case hd => rfl); (case hg => rfl); (case hr => first | (go_simp; done) | (go_simp; rfl)); intro gr hggr w3 hboxgr hbgr; have BKr := Aside0.mk hboxgr; have BKb2 := Aside0.mk (blk_below BKb.out hbgr); have HB3 := Aside0.mk (pw_below_trans HBb.out hbgr); have hgr : Aside0 (w.heap.size ≤ gr ∧ gr < w3.heap.size ∧ gb ≠ gr) := ⟨by have := HBb.out.size; omega, blk_lt hboxgr, by have := hgle.out; omega⟩; have k0 := (blk_cell BKb2.out 0).trans rfl; have k1 := (blk_cell BKb2.out 1).trans rfl; have k2 := (blk_cell BKb2.out 2).trans rfl; have k3 := (blk_cell BKb2.out 3).trans rfl; clear hboxgr hbgr hggr) | (go_at_call 119; (with_reducible refine (Clone_rows A0_3 c0_3 l0_3 w _ HR.out HB3.out HK.out.1).mono ?_); rintro e w4 ⟨v, rfl, hv, hb⟩; have HV := Aside0.mk (ClI.start (Kd.R_lower hv HB3.out.size)); obtain ⟨A4, c4, hv4⟩ := HV.out.size; subst hv4; have BKb4 := Aside0.mk (blk_below BKb2.out hb); have BKr4 := Aside0.mk (blk_below BKr.out hb); have HB4 := Aside0.mk (pw_below_trans HB3.out hb); have k3 := (blk_cell BKb4.out 3).trans rfl; have f3 := blk_frozen BKb4.out 3; have m3 : ∀ u : Value, (w4.setCell ⟨gb, 3, none⟩ u).cell? ⟨gb, 3, none⟩ = some u := fun u => (blk_cell (blk_put (cs' := #[.int .i64 a0_0, .int .i64 a0_1, .int .i64 a0_2, u]) BKb4.out 3 u rfl) 3).trans rfl; clear hv hb))
  clear k0 k1 k2 k3 f3
  go_loopg [11] l0_3.length (fun kq v11 w' => ∃ (i : Int), v11 = .int .i64 i ∧ Aside0 (0 ≤ i ∧ i + kq = l0_3.length) ∧ Aside0 (ClI w w' i.toNat (.slice A4 l0_3.length c4) l0_3) ∧ Aside0 (w'.heap[gb]? = some (.cells #[.int .i64 a0_0, .int .i64 a0_1, .int .i64 a0_2, .slice A4 l0_3.length c4] 24 (0, 0))) ∧ Aside0 (w'.heap[gr]? = some (.cells #[.int .i64 0, .int .i64 0, .int .i64 0, .slice none 0 0] 24 (0, 0))) ∧ Aside0 (Below w.heap.size w w'))
  case atStart => exact ⟨0, rfl, ⟨by omega, by omega⟩, ⟨(HV.out).set BKb4.out (by decide) 3 _⟩, ⟨blk_put BKb4.out 3 _ rfl⟩, ⟨blk_far BKr4.out (fun he => hgr.out.2.2 he.symm) _⟩, ⟨below_set HB4.out hgle.out.1⟩⟩
  case round =>
    clear HV BKb BKb2 BKb4 BKr BKr4 HB4 m3
    obtain ⟨i, rfl, HI, HV, BKb, BKr, HB⟩ := hrel
    cases gk with
    | zero =>
      have hge : decide (i < (l0_3.length : Int)) = false := by have := HI.out; simp; omega
      have hi : i.toNat = l0_3.length := by have := HI.out; omega
      rw [hi] at HV
      have S1 := Aside0.mk HV.out.done
      have k0 : wr.cell? ⟨gb, 0, none⟩ = some (.int .i64 a0_0) := (blk_cell BKb.out 0).trans rfl
      have k1 : wr.cell? ⟨gb, 1, none⟩ = some (.int .i64 a0_1) := (blk_cell BKb.out 1).trans rfl
      have k2 : wr.cell? ⟨gb, 2, none⟩ = some (.int .i64 a0_2) := (blk_cell BKb.out 2).trans rfl
      have k3 : wr.cell? ⟨gb, 3, none⟩ = some (.slice A4 l0_3.length c4) := (blk_cell BKb.out 3).trans rfl
      have q0 : wr.cell? ⟨gr, 0, none⟩ = some (.int .i64 0) := (blk_cell BKr.out 0).trans rfl
      have q1 : wr.cell? ⟨gr, 1, none⟩ = some (.int .i64 0) := (blk_cell BKr.out 1).trans rfl
      have q2 : wr.cell? ⟨gr, 2, none⟩ = some (.int .i64 0) := (blk_cell BKr.out 2).trans rfl
      have q3 : wr.cell? ⟨gr, 3, none⟩ = some (.slice none 0 0) := (blk_cell BKr.out 3).trans rfl
      have qf0 := blk_frozen BKr.out 0
      have qf1 := blk_frozen BKr.out 1
      have qf2 := blk_frozen BKr.out 2
      have qf3 := blk_frozen BKr.out 3
      go_wp2
      refine bodyPost_ret (results_cell_row rfl _ _ gr 24 #[.int .i64 a0_0, .int .i64 a0_1, .int .i64 a0_2, .slice A4 l0_3.length c4] (0, 0) _ rfl (four_put BKr.out _ _ _ _) Tryz.underlying24 rfl (by kernel_rfl)) rfl ?_
      exact ⟨_, rfl, four_S S1.out BKr.out (by decide) _ _ _ _, four_below HB.out hgr.out.1 _ _ _ _⟩
    | succ kq1 =>
      have h0 : 0 ≤ i := by have := HI.out; omega
      have h1 : i < (l0_3.length : Int) := by have := HI.out; omega
      have hge : decide (i < (l0_3.length : Int)) = true := decide_eq_true h1
      have hg0 : decide (0 ≤ i) = true := decide_eq_true h0
      have hil : i.toNat < l0_3.length := by omega
      have hx : l0_3[i.toNat]? = some l0_3[i.toNat] := List.getElem?_eq_getElem hil
      have HPL : Aside0 (l0_3[i.toNat].length < 17592186044416) := ⟨by have := List.all_eq_true.1 HK.out.2 _ (List.getElem_mem hil); simpa using this⟩
      generalize l0_3[i.toNat] = x at hx HPL
      have HX := Aside0.mk hx
      clear hx
      obtain ⟨gg, cg, cells, hv, hgw, hgb⟩ := HV.out.form (by omega)
      injection hv with hv1 _ hv2
      subst hv1; subst hv2
      obtain ⟨Ax, cx, hcx, hfx, hlx, hCx⟩ := HV.out.read HX.out
      have HG := Aside0.mk hgb
      have HGW := Aside0.mk hgw
      have HCX := Aside0.mk hCx
      have HLX := Aside0.mk hlx
      clear hgb hgw hlx hCx
      have hw : Aside0 (wrap64 (i + 1) = i + 1 ∧ (i + 1).toNat = i.toNat + 1) := ⟨by have := HI.out; have := HK.out.1; unfold wrap64; omega, by omega⟩
      replace h0 := eq_true h0
      replace h1 := eq_true h1
      clear hil
      go_wp2
      refine start_ (n := 11) (S := fun w' => w'.cell? ⟨gb, 3, none⟩ = some (.slice (some ⟨gg, 0, none⟩) l0_3.length c4) ∧ w'.cell? ⟨gg, i.toNat, none⟩ = some (.slice Ax x.length cx)) (ds := [10]) #[false, false, false, false, false, false, false, false, false, false, false] (by kernel_rfl) rfl rfl ⟨(blk_cell BKb.out 3).trans rfl, hcx⟩ (fun hHeld => ?_); refine with_tabW item_clone.tab5 item_clone.bits5 (fun HT_ HW_ => ?_)
      have n1 := Aside0.mk (HV.out.below (below_drew1 (Below.refl _ _)))
      have n2 := Aside0.mk (blk_drew BKb.out)
      have n3 := Aside0.mk (blk_drew BKr.out)
      have n4 := Aside0.mk (below_drew1 HB.out)
      have n5 := Aside0.mk (blk_drew HG.out)
      clear HV BKb BKr HB HG
      have HV := n1; have BKb := n2; have BKr := n3; have HB := n4; have HG := n5
      clear n1 n2 n3 n4 n5
      replace hcx : wr.drew.cell? ⟨gg, i.toNat, none⟩ = some (.slice Ax x.length cx) := hcx
      clear hfx
      generalize wr.drew = wd at HV BKb BKr HB HG hcx hHeld ⊢
      refine pure_ (i := 0) (N := some 14) (v := ?_) (a' := ?_) #[true, false, false, false, false, false, false, false, false, false, false] rfl rfl (any_of HT_.out (by kernel_rfl)) (fun _ _ _ h => h) (Or.inl ⟨by rfl, ?_⟩) ?_ ?_
      rotate_left
      · intro w'
        go_simp
        with_reducible rfl
      rotate_left
      · simp only [Act.put, List.setIfInBounds_toArray, List.set_cons_zero, List.set_cons_succ, i64_w, i32_w]
        rfl
      refine pure_ (i := 2) (N := some 16) (v := ?_) (a' := ?_) #[true, false, true, false, false, false, false, false, false, false, false] rfl rfl (any_of HT_.out (by kernel_rfl)) (fun _ _ _ h => h) (Or.inl ⟨by rfl, ?_⟩) ?_ ?_
      rotate_left
      · intro w'
        go_simp
        with_reducible rfl
      rotate_left
      · simp only [Act.put, List.setIfInBounds_toArray, List.set_cons_zero, List.set_cons_succ, i64_w, i32_w]
        rfl
      refine pure_ (i := 3) (N := some 17) (v := ?_) (a' := ?_) #[true, false, true, true, false, false, false, false, false, false, false] rfl rfl (any_of HT_.out (by kernel_rfl)) (fun _ _ _ h => h) (Or.inl ⟨by rfl, ?_⟩) ?_ ?_
      rotate_left
      · intro w'
        go_simp
        with_reducible rfl
      rotate_left
      · simp only [Act.put, List.setIfInBounds_toArray, List.set_cons_zero, List.set_cons_succ, i64_w, i32_w]
        rfl
      refine pure_ (i := 5) (N := some 19) (v := ?_) (a' := ?_) #[true, false, true, true, false, true, false, false, false, false, false] rfl rfl (any_of HT_.out (by kernel_rfl)) (fun _ _ _ h => h) (Or.inl ⟨by rfl, ?_⟩) ?_ ?_
      rotate_left
      · intro w'
        go_simp
        with_reducible rfl
      rotate_left
      · simp only [Act.put, List.setIfInBounds_toArray, List.set_cons_zero, List.set_cons_succ, i64_w, i32_w]
        rfl
      refine take_ (i := 1) (N := some 15) (v := ?_) (a' := ?_) #[true, true, true, true, false, true, false, false, false, false, false] rfl rfl (take_ofW HT_.out HW_.out (by kernel_rfl)) (fun _ _ _ h => h) (Or.inl ⟨by rfl, ?_⟩) hHeld ?_ ?_
      rotate_left
      · rintro w' ⟨s0, s1⟩
        go_simp
        with_reducible rfl
      rotate_left
      · simp only [Act.put, List.setIfInBounds_toArray, List.set_cons_zero, List.set_cons_succ, i64_w, i32_w]
        rfl
      refine take_ (i := 4) (N := some 18) (v := ?_) (a' := ?_) #[true, true, true, true, true, true, false, false, false, false, false] rfl rfl (take_ofW HT_.out HW_.out (by kernel_rfl)) (fun _ _ _ h => h) (Or.inl ⟨by rfl, ?_⟩) hHeld ?_ ?_
      rotate_left
      · rintro w' ⟨s0, s1⟩
        go_simp
        with_reducible rfl
      rotate_left
      · simp only [Act.put, List.setIfInBounds_toArray, List.set_cons_zero, List.set_cons_succ, i64_w, i32_w]
        rfl
      refine pure_ (i := 6) (N := some 20) (v := ?_) (a' := ?_) #[true, true, true, true, true, true, true, false, false, false, false] rfl rfl (any_of HT_.out (by kernel_rfl)) (fun _ _ _ h => h) (Or.inl ⟨by rfl, ?_⟩) ?_ ?_
      rotate_left
      · intro w'
        go_simp
        with_reducible rfl
      rotate_left
      · simp only [Act.put, List.setIfInBounds_toArray, List.set_cons_zero, List.set_cons_succ, i64_w, i32_w]
        rfl
      refine take_ (i := 7) (N := some 21) (v := ?_) (a' := ?_) #[true, true, true, true, true, true, true, true, false, false, false] rfl rfl (take_ofW HT_.out HW_.out (by kernel_rfl)) (fun _ _ _ h => h) (Or.inl ⟨by rfl, ?_⟩) hHeld ?_ ?_
      rotate_left
      · rintro w' ⟨s0, s1⟩
        go_simp
        with_reducible rfl
      rotate_left
      · simp only [Act.put, List.setIfInBounds_toArray, List.set_cons_zero, List.set_cons_succ, i64_w, i32_w]
        rfl
      refine one_ (i := 8) (N := some 22) #[true, true, true, true, true, true, true, true, true, false, false] rfl rfl (one_of HT_.out (by kernel_rfl)) (by decide) (fun K hK => ?_)
      refine goes_ Tryz.func120 (by kernel_rfl) rfl #[.slice Ax x.length cx] (by rfl) rfl rfl (by (try simp only [List.map_toArray, List.map_cons, List.map_nil]); first | done | rfl) ?_
      with_reducible refine (slices_Clone_int_int_120.calls Ax cx x x _ ?s1 HLX.out ?s3).mono ?_
      (case s1 => exact Kd.C_below HCX.out HB.out)
      (case s3 => exact if_pos HPL.out)
      rintro e w9 ⟨v9, rfl, hv9, hb9⟩
      obtain ⟨A9, c9, rfl⟩ := Kd.R_slice hv9
      refine ⟨_, rfl, ?_⟩
      have HV9 := Aside0.mk hv9
      have HB9 := Aside0.mk hb9
      have BKb9 := Aside0.mk (blk_below BKb.out hb9)
      have BKr9 := Aside0.mk (blk_below BKr.out hb9)
      have HG9 := Aside0.mk (blk_below HG.out hb9)
      clear hv9 hb9
      refine hK.out _ _ ⟨(blk_cell BKb9.out 3).trans rfl, (HB9.out.cell (World.block_lt_of_cell? wd _ hcx)).trans hcx⟩ (fun hHeld => ?_)
      clear hK K
      refine norm_ (a' := ?_) ?_ ?_
      rotate_left
      · show Act.put _ (some 22) _ = _
        simp only [Act.put, List.setIfInBounds_toArray, List.set_cons_zero, List.set_cons_succ, i64_w, i32_w]
        rfl
      refine pure_ (i := 9) (N := some 23) (v := ?_) (a' := ?_) #[true, true, true, true, true, true, true, true, true, true, false] rfl rfl (any_of HT_.out (by kernel_rfl)) (fun _ _ _ h => h) (Or.inl ⟨by rfl, ?_⟩) ?_ ?_
      rotate_left
      · intro w'
        go_simp
        with_reducible rfl
      rotate_left
      · simp only [Act.put, List.setIfInBounds_toArray, List.set_cons_zero, List.set_cons_succ, i64_w, i32_w]
        rfl
      refine last_ (i := 10) (N := none) #[true, true, true, true, true, true, true, true, true, true, true] rfl rfl (one_of HT_.out (by kernel_rfl)) (by decide) (fun K hK => ?_)
      have k9 := (HB9.out.cell (World.block_lt_of_cell? wd _ hcx)).trans hcx
      have f9 := blk_frozen HG9.out i.toNat
      refine skip_ (w1 := ?_) (by rfl) rfl ?_ ?_
      rotate_left
      · go_simp
        rfl
      refine hK.out _ _ ?_
      clear hK K
      refine done_ (done_of HT_.out (by kernel_rfl)) ?_
      go_wp2
      go_roundg kq1
      case measure => omega
      case rel => exact ⟨i + 1, congrArg _ hw.out.1, ⟨by have := HI.out; omega, by have := HI.out; omega⟩, ⟨by rw [hw.out.2]; exact HV.out.step HX.out HB9.out HV9.out (blk_lt HG.out) HB.out.size⟩, ⟨blk_far BKb9.out (ne_types BKb9.out HG9.out (by decide)) _⟩, ⟨blk_far BKr9.out (ne_types BKr9.out HG9.out (by decide)) _⟩, ⟨below_set (pw_below_trans HB.out HB9.out) HGW.out⟩⟩
end Go.Proofs.YtphkionjjhhhlaaGreat.Q
end
section
namespace Go.Proofs.YtphkionjjhhhlaaGreat.Q
open Go.RowKit Go.Proofs.YtphkionjjhhhlaaGreatW.PrintWords Go.Proofs.YtphkionjjhhhlaaGreatW.PrintLast Go.Proofs.YtphkionjjhhhlaaGreatW.PrintMore
def turnedF (a0 a1 a2 : Int) (l : List (List Int)) (q : Nat) (fl : Bool) : Int × Int × Int × List (List Int) :=
  let s := turnN q (a0.toNat, a1.toNat, l)
  ((s.1 : Int), (s.2.1 : Int), a2, if fl then s.2.2.map (flipP s.1 s.2.1) else s.2.2)
def item_turned.f (a0_0 a0_1 a0_2 : Int) (l0_3 : List (List Int)) (a1 : Int) (a2 : Bool) : Option (Int × Int × Int × List (List Int)) :=
  if (1 ≤ a0_0 ∧ a0_0 ≤ 1000 ∧ 1 ≤ a0_1 ∧ a0_1 ≤ 1000 ∧ 0 < l0_3.length ∧ l0_3.length ≤ 1000 ∧ 0 ≤ a1 ∧ a1 ≤ 3) ∧ (l0_3.all fun p => decide (p.length = a0_0.toNat * a0_1.toNat)) = true then some (turnedF a0_0 a0_1 a0_2 l0_3 a1.toNat a2) else none
def item_turned.T14 : Bool × List (List Nat × List Nat) := (true, [([], []), ([0], [0]), ([], []), ([1, 2], [1, 2]), ([3], [3]), ([], []), ([], []), ([6], [6]), ([5, 7], [5, 7]), ([], []), ([8, 9], [8, 9]), ([], []), ([], []), ([12], [12]), ([13], [13]), ([], []), ([14, 15], [14, 15]), ([], []), ([17], [17]), ([16, 18], [16, 18]), ([], []), ([19, 20], [19, 20]), ([11, 21], [11, 21]), ([22], [22]), ([4, 10, 0, 1, 2, 3, 4, 5, 6, 7, 8, 9, 10, 11, 12, 13, 14, 15, 16, 17, 18, 19, 20, 21, 22, 23], [4, 10]), ([24, 23, 0, 1, 2, 3, 4, 5, 6, 7, 8, 9, 10, 11, 12, 13, 14, 15, 16, 17, 18, 19, 20, 21, 22, 23], [23, 24])])
def item_turned.B14 : List Nat := [0, 1, 0, 7, 15, 0, 0, 64, 224, 0, 992, 0, 0, 4096, 12288, 0, 61440, 0, 131072, 520192, 0, 2093056, 4192256, 8386560, 16777215, 33554431]
theorem item_turned.tab14 : rtab .any (opsOf Tryz.f49 14) = item_turned.T14 := by kernel_rfl
theorem item_turned.bits14 : waitsOk item_turned.T14.2 item_turned.B14 = true := by kernel_rfl
set_option maxHeartbeats 32000000 in
set_option maxRecDepth 100000 in
theorem item_turned.calls (a0_0 : Int) (a0_1 : Int) (a0_2 : Int) (A0_3 : Option Addr) (c0_3 : Nat) (l0_3 : List (List Int)) (a1 : Int) (a2 : Bool) (r1 : Int) (r2 : Int) (r3 : Int) (r4 : List (List Int)) (w : World) (hr0_3 : Kd.C (Kd.slice 3 (Kd.int .i64)) w A0_3 l0_3.length l0_3) (hc0_3 : l0_3.length ≤ c0_3) (h : item_turned.f a0_0 a0_1 a0_2 l0_3 a1 a2 = some (r1, r2, r3, r4)) :
    Calls Tryz.prog 49 #[.agg #[.int .i64 a0_0, .int .i64 a0_1, .int .i64 a0_2, .slice A0_3 l0_3.length c0_3], .int .i64 a1, .bool a2] w fun e w' => ∃ v3_ : Value, e = .returned (.agg #[.int .i64 r1, .int .i64 r2, .int .i64 r3, v3_]) ∧ Kd.S (Kd.slice 3 (Kd.int .i64)) 39 w' w.heap.size (fun _ => True) v3_ r4 ∧ Below w.heap.size w w' := by
  unfold item_turned.f at h
  split at h
  case isFalse => cases h
  case isTrue hk =>
  have HC := Aside0.mk hc0_3
  have HK := Aside0.mk hk
  have HR := Aside0.mk hr0_3
  have hall : ∀ p ∈ l0_3, p.length = a0_0.toNat * a0_1.toNat := fun p hp => by simpa using List.all_eq_true.1 hk.2 p hp
  have hP : a0_0.toNat * a0_1.toNat ≤ 1000 * 1000 := Nat.mul_le_mul (by omega) (by omega)
  have HCL : Aside0 (item_clone.f a0_0 a0_1 a0_2 l0_3 = some (a0_0, a0_1, a0_2, l0_3)) := ⟨if_pos ⟨by omega, List.all_eq_true.2 fun p hp => by have := hall p hp; simp; omega⟩⟩
  have HOK : Aside0 (okPic (a0_0.toNat, a0_1.toNat, l0_3)) := ⟨⟨by show 1 ≤ a0_0.toNat; omega, by show a0_0.toNat ≤ 1000; omega, by show 1 ≤ a0_1.toNat; omega, by show a0_1.toNat ≤ 1000; omega, by show l0_3.length ≤ 1000; omega, hall⟩⟩
  have HF := Aside0.mk (Option.some.inj h)
  unfold turnedF at HF
  obtain ⟨cw0, hcw0⟩ : ∃ c : Nat, c = a0_0.toNat := ⟨_, rfl⟩
  obtain ⟨ch0, hch0⟩ : ∃ c : Nat, c = a0_1.toNat := ⟨_, rfl⟩
  rw [← hcw0, ← hch0] at HOK
  have EW : Aside0 (a0_0 = (cw0 : Int) ∧ a0_1 = (ch0 : Int)) := ⟨by omega, by omega⟩
  rw [← hcw0, ← hch0] at HF
  obtain ⟨fin, hfin⟩ : ∃ s, s = turnN a1.toNat (cw0, ch0, l0_3) := ⟨_, rfl⟩
  rw [← hfin] at HF
  have HFIN := Aside0.mk hfin.symm
  clear hfin hcw0 hch0 hall hP hk hr0_3 h hc0_3
  have hu24 := Tryz.underlying24
  have hu39 := Tryz.underlying39
  have hu22 := Tryz.underlying22
  go_enter Tryz.func49, Tryz.ntmps49
  go_wp2_with (first | ((with_reducible refine gate_dst (N := 3) rfl ?_); refine box_event ?hg (N := 3) ?hd (cs := #[.int .i64 a0_0, .int .i64 a0_1, .int .i64 a0_2, .slice A0_3 l0_3.length c0_3]) (t := 24) ?hr ?_; (case hd => rfl); (case hg => rfl); (case hr => first | (go_simp; done) | (go_simp; rfl)); intro g3 hgg3 w2 hboxg3 hbg3; have BKg3 := Aside0.mk hboxg3; have HB2 := Aside0.mk hbg3; have k0 : w2.cell? ⟨g3, 0, none⟩ = some (.int .i64 a0_0) := (blk_cell BKg3.out 0).trans rfl; have k1 : w2.cell? ⟨g3, 1, none⟩ = some (.int .i64 a0_1) := (blk_cell BKg3.out 1).trans rfl; have k2 : w2.cell? ⟨g3, 2, none⟩ = some (.int .i64 a0_2) := (blk_cell BKg3.out 2).trans rfl; have k3 : w2.cell? ⟨g3, 3, none⟩ = some (.slice A0_3 l0_3.length c0_3) := (blk_cell BKg3.out 3).trans rfl; clear hboxg3 hbg3 hgg3) | ((with_reducible refine gate_dst (N := 6) rfl ?_); refine box_event ?hg (N := 6) ?hd (cs := #[.int .i64 0, .int .i64 0, .int .i64 0, .slice none 0 0]) (t := 24) ?hr ?_; (case hd => rfl); (case hg => rfl); (case hr => first | (go_simp; done) | (go_simp; rfl)); intro g6 hgg6 w3 hboxg6 hbg6; have BKg6 := Aside0.mk hboxg6; have GE6 : Aside0 (w.heap.size ≤ g6) := ⟨by have := HB2.out.size; omega⟩; have HB3 := Aside0.mk (pw_below_trans HB2.out hbg6); replace BKg3 := Aside0.mk (blk_below BKg3.out hbg6); clear k0 k1 k2 k3; have k0 : w3.cell? ⟨g3, 0, none⟩ = some (.int .i64 a0_0) := (blk_cell BKg3.out 0).trans rfl; have k1 : w3.cell? ⟨g3, 1, none⟩ = some (.int .i64 a0_1) := (blk_cell BKg3.out 1).trans rfl; have k2 : w3.cell? ⟨g3, 2, none⟩ = some (.int .i64 a0_2) := (blk_cell BKg3.out 2).trans rfl; have k3 : w3.cell? ⟨g3, 3, none⟩ = some (.slice A0_3 l0_3.length c0_3) := (blk_cell BKg3.out 3).trans rfl; clear hboxg6 hbg6 hgg6) | (go_at_call 67; (with_reducible refine (item_clone.calls a0_0 a0_1 a0_2 A0_3 c0_3 l0_3 a0_0 a0_1 a0_2 l0_3 _ (Kd.C_below HR.out HB3.out) HC.out HCL.out).mono ?_); rintro e w4 ⟨v4, rfl, hs4, hb4⟩; obtain ⟨gO, cO, rfl, _, _, _⟩ := Kd.S_form hs4 HK.out.1.2.2.2.2.1; have HS4 := Aside0.mk (Kd.S_lower hs4 HB3.out.size); replace BKg6 := Aside0.mk (blk_below BKg6.out hb4); have HB4 := Aside0.mk (pw_below_trans HB3.out hb4); clear hs4 hb4) | ((with_reducible refine gate_dst (N := 7) rfl ?_); refine box_event ?hg (N := 7) ?hd (cs := #[.int .i64 0, .int .i64 0, .int .i64 0, .slice none 0 0]) (t := 24) ?hr ?_; (case hd => rfl); (case hg => rfl); (case hr => first | (go_simp; done) | (go_simp; rfl)); intro g7 hgg7 w5 hboxg7 hbg7; have BKg7 := Aside0.mk hboxg7; have GE7 : Aside0 (w.heap.size ≤ g7) := ⟨by have := HB4.out.size; omega⟩; have NE67 : Aside0 (g6 ≠ g7) := ⟨by have := blk_lt BKg6.out; omega⟩; replace BKg6 := Aside0.mk (blk_below BKg6.out hbg7); have HB5 := Aside0.mk (pw_below_trans HB4.out hbg7); have HS5 := Aside0.mk (Kd.S_below HS4.out hbg7); have z0 : w5.cell? ⟨g7, 0, none⟩ = some (.int .i64 0) := (blk_cell BKg7.out 0).trans rfl; have z1 : w5.cell? ⟨g7, 1, none⟩ = some (.int .i64 0) := (blk_cell BKg7.out 1).trans rfl; have z2 : w5.cell? ⟨g7, 2, none⟩ = some (.int .i64 0) := (blk_cell BKg7.out 2).trans rfl; have z3 : w5.cell? ⟨g7, 3, none⟩ = some (.slice none 0 0) := (blk_cell BKg7.out 3).trans rfl; have fz0 := blk_frozen BKg7.out 0; have fz1 := blk_frozen BKg7.out 1; have fz2 := blk_frozen BKg7.out 2; have fz3 := blk_frozen BKg7.out 3; clear hboxg7 hbg7 hgg7))
  clear z0 z1 z2 z3 fz0 fz1 fz2 fz3 k0 k1 k2 k3
  go_loopg [19] a1.toNat (fun kq v19 w' => ∃ (i : Int) (cw ch : Nat) (ps : List (List Int)) (gO cO : Nat), v19 = .int .i64 i ∧ Aside0 (0 ≤ i ∧ i + kq = a1) ∧ Aside0 (okPic (cw, ch, ps) ∧ ps.length = l0_3.length ∧ turnN kq (cw, ch, ps) = fin) ∧ Aside0 (Kd.S (Kd.slice 3 (Kd.int .i64)) 39 w' w.heap.size (fun _ => True) (.slice (some ⟨gO, 0, none⟩) l0_3.length cO) ps) ∧ Aside0 (w'.heap[g7]? = some (.cells #[.int .i64 (cw : Int), .int .i64 (ch : Int), .int .i64 a0_2, .slice (some ⟨gO, 0, none⟩) l0_3.length cO] 24 (0, 0))) ∧ Aside0 (w'.heap[g6]? = some (.cells #[.int .i64 0, .int .i64 0, .int .i64 0, .slice none 0 0] 24 (0, 0))) ∧ Aside0 (Below w.heap.size w w'))
  case atStart => exact ⟨0, cw0, ch0, l0_3, gO, cO, rfl, ⟨by omega, by have := HK.out; omega⟩, ⟨HOK.out, rfl, HFIN.out⟩, ⟨four_S HS5.out BKg7.out (by decide) _ _ _ _⟩, ⟨by rw [← EW.out.1, ← EW.out.2]; exact four_put BKg7.out _ _ _ _⟩, ⟨four_far BKg6.out NE67.out _ _ _ _⟩, ⟨four_below HB5.out GE7.out _ _ _ _⟩⟩
  case round =>
    clear BKg3 BKg6 BKg7 HS4 HS5 HB5 HB4 HB3 HB2 HOK HFIN EW
    obtain ⟨i, cw, ch, ps, gO, cO, rfl, HI, HP, HSO, BKg7, BKg6, HB⟩ := hrel
    have HPB : Aside0 (1 ≤ cw ∧ cw ≤ 1000 ∧ 1 ≤ ch ∧ ch ≤ 1000) := ⟨HP.out.1.1, HP.out.1.2.1, HP.out.1.2.2.1, HP.out.1.2.2.2.1⟩
    cases gk with
    | zero =>
      have hge : decide (i < a1) = false := by have := HI.out; simp; omega
      obtain rfl : (cw, ch, ps) = fin := HP.out.2.2
      have HFF := HF.out
      cases a2 with
      | false =>
        simp only [Bool.false_eq_true, if_false, Prod.mk.injEq] at HFF
        obtain ⟨h1, h2, h3, h4⟩ := HFF
        subst h1; subst h2; subst h3; subst h4
        have k0 : wr.cell? ⟨g7, 0, none⟩ = some (.int .i64 (cw : Int)) := (blk_cell BKg7.out 0).trans rfl
        have k1 : wr.cell? ⟨g7, 1, none⟩ = some (.int .i64 (ch : Int)) := (blk_cell BKg7.out 1).trans rfl
        have k2 : wr.cell? ⟨g7, 2, none⟩ = some (.int .i64 a0_2) := (blk_cell BKg7.out 2).trans rfl
        have k3 : wr.cell? ⟨g7, 3, none⟩ = some (.slice (some ⟨gO, 0, none⟩) l0_3.length cO) := (blk_cell BKg7.out 3).trans rfl
        have z0 : wr.cell? ⟨g6, 0, none⟩ = some (.int .i64 0) := (blk_cell BKg6.out 0).trans rfl
        have z1 : wr.cell? ⟨g6, 1, none⟩ = some (.int .i64 0) := (blk_cell BKg6.out 1).trans rfl
        have z2 : wr.cell? ⟨g6, 2, none⟩ = some (.int .i64 0) := (blk_cell BKg6.out 2).trans rfl
        have z3 : wr.cell? ⟨g6, 3, none⟩ = some (.slice none 0 0) := (blk_cell BKg6.out 3).trans rfl
        have f0 := blk_frozen BKg6.out 0
        have f1 := blk_frozen BKg6.out 1
        have f2 := blk_frozen BKg6.out 2
        have f3 := blk_frozen BKg6.out 3
        go_wp2
        refine bodyPost_ret (results_cell_row rfl _ _ g6 24 #[.int .i64 (cw : Int), .int .i64 (ch : Int), .int .i64 a0_2, .slice (some ⟨gO, 0, none⟩) l0_3.length cO] (0, 0) _ rfl (four_put BKg6.out _ _ _ _) Tryz.underlying24 rfl (by kernel_rfl)) rfl ?_
        exact ⟨_, rfl, four_S HSO.out BKg6.out (by decide) _ _ _ _, four_below HB.out GE6.out _ _ _ _⟩
      | true =>
        simp only [if_true, Prod.mk.injEq] at HFF
        obtain ⟨h1, h2, h3, h4⟩ := HFF
        subst h1; subst h2; subst h3; subst h4
        have k0 : wr.cell? ⟨g7, 0, none⟩ = some (.int .i64 (cw : Int)) := (blk_cell BKg7.out 0).trans rfl
        have k1 : wr.cell? ⟨g7, 1, none⟩ = some (.int .i64 (ch : Int)) := (blk_cell BKg7.out 1).trans rfl
        have k2 : wr.cell? ⟨g7, 2, none⟩ = some (.int .i64 a0_2) := (blk_cell BKg7.out 2).trans rfl
        have k3 : wr.cell? ⟨g7, 3, none⟩ = some (.slice (some ⟨gO, 0, none⟩) l0_3.length cO) := (blk_cell BKg7.out 3).trans rfl
        go_wp2
        clear k0 k1 k2 k3
        go_loopg [83] l0_3.length (fun kq v83 w' => ∃ (p : Int), v83 = .int .i64 p ∧ Aside0 (0 ≤ p ∧ p + kq = l0_3.length) ∧ Aside0 (Kd.S (Kd.slice 3 (Kd.int .i64)) 39 w' w.heap.size (fun _ => True) (.slice (some ⟨gO, 0, none⟩) l0_3.length cO) (fx cw ch ps p.toNat 0)) ∧ Aside0 (w'.heap[g7]? = some (.cells #[.int .i64 (cw : Int), .int .i64 (ch : Int), .int .i64 a0_2, .slice (some ⟨gO, 0, none⟩) l0_3.length cO] 24 (0, 0))) ∧ Aside0 (w'.heap[g6]? = some (.cells #[.int .i64 0, .int .i64 0, .int .i64 0, .slice none 0 0] 24 (0, 0))) ∧ Aside0 (Below w.heap.size w w'))
        case atStart => exact ⟨0, rfl, ⟨by omega, by omega⟩, ⟨by rw [show (0 : Int).toNat = 0 from rfl, fx_zero]; exact HSO.out⟩, BKg7, BKg6, HB⟩
        case round =>
          clear HSO BKg7 BKg6 HB hge
          obtain ⟨p, rfl, HPI, HSO, BKg7, BKg6, HB⟩ := hrel
          cases gk with
          | zero =>
            have hge : decide (p < (l0_3.length : Int)) = false := by have := HPI.out; simp; omega
            have hpn : p.toNat = ps.length := by have := HPI.out; have := HP.out.2.1; omega
            rw [hpn, fx_last] at HSO
            have k0 : wr.cell? ⟨g7, 0, none⟩ = some (.int .i64 (cw : Int)) := (blk_cell BKg7.out 0).trans rfl
            have k1 : wr.cell? ⟨g7, 1, none⟩ = some (.int .i64 (ch : Int)) := (blk_cell BKg7.out 1).trans rfl
            have k2 : wr.cell? ⟨g7, 2, none⟩ = some (.int .i64 a0_2) := (blk_cell BKg7.out 2).trans rfl
            have k3 : wr.cell? ⟨g7, 3, none⟩ = some (.slice (some ⟨gO, 0, none⟩) l0_3.length cO) := (blk_cell BKg7.out 3).trans rfl
            have z0 : wr.cell? ⟨g6, 0, none⟩ = some (.int .i64 0) := (blk_cell BKg6.out 0).trans rfl
            have z1 : wr.cell? ⟨g6, 1, none⟩ = some (.int .i64 0) := (blk_cell BKg6.out 1).trans rfl
            have z2 : wr.cell? ⟨g6, 2, none⟩ = some (.int .i64 0) := (blk_cell BKg6.out 2).trans rfl
            have z3 : wr.cell? ⟨g6, 3, none⟩ = some (.slice none 0 0) := (blk_cell BKg6.out 3).trans rfl
            have f0 := blk_frozen BKg6.out 0
            have f1 := blk_frozen BKg6.out 1
            have f2 := blk_frozen BKg6.out 2
            have f3 := blk_frozen BKg6.out 3
            go_wp2
            refine bodyPost_ret (results_cell_row rfl _ _ g6 24 #[.int .i64 (cw : Int), .int .i64 (ch : Int), .int .i64 a0_2, .slice (some ⟨gO, 0, none⟩) l0_3.length cO] (0, 0) _ rfl (four_put BKg6.out _ _ _ _) Tryz.underlying24 rfl (by kernel_rfl)) rfl ?_
            exact ⟨_, rfl, four_S HSO.out BKg6.out (by decide) _ _ _ _, four_below HB.out GE6.out _ _ _ _⟩
          | succ kq2 =>
            have p0 : 0 ≤ p := by have := HPI.out; omega
            have p1 : p < (l0_3.length : Int) := by have := HPI.out; omega
            have hpl : p.toNat < ps.length := by have := HP.out.2.1; omega
            have hlp : ps[p.toNat]? = some ps[p.toNat] := List.getElem?_eq_getElem hpl
            have hln : ps[p.toNat].length = cw * ch := HP.out.1.2.2.2.2.2 _ (List.getElem_mem hpl)
            have hNpos : Aside0 (0 < cw * ch ∧ cw * ch ≤ 1000000) := ⟨Nat.mul_pos (by have := HPB.out; omega) (by have := HPB.out; omega), by have := Nat.mul_le_mul HP.out.1.2.1 HP.out.1.2.2.2.1; exact this⟩
            generalize ps[p.toNat] = lp at hlp hln
            have HLP := Aside0.mk (And.intro hlp hln)
            obtain ⟨gp, cp, _, kp, _, _, _, _, _, _, _, _, _⟩ := S_row HSO.out p p0 p1 _ (fx_row cw ch ps p.toNat 0 lp hlp) (by rw [flipT_length]; have := hNpos.out; omega)
            rw [flipT_length, hln] at kp
            have KP := Aside0.mk kp
            clear hlp hln hpl
            have pd : decide (p < (l0_3.length : Int)) = true := decide_eq_true p1
            have pd0 : decide (0 ≤ p) = true := decide_eq_true p0
            replace p0 := eq_true p0
            replace p1 := eq_true p1
            have k0 : wr.cell? ⟨g7, 0, none⟩ = some (.int .i64 (cw : Int)) := (blk_cell BKg7.out 0).trans rfl
            have k1 : wr.cell? ⟨g7, 1, none⟩ = some (.int .i64 (ch : Int)) := (blk_cell BKg7.out 1).trans rfl
            have k2 : wr.cell? ⟨g7, 2, none⟩ = some (.int .i64 a0_2) := (blk_cell BKg7.out 2).trans rfl
            have k3 : wr.cell? ⟨g7, 3, none⟩ = some (.slice (some ⟨gO, 0, none⟩) l0_3.length cO) := (blk_cell BKg7.out 3).trans rfl
            go_wp2
            clear k0 k1 k2 k3 kp
            go_loopg [89] ch (fun kq v89 w' => ∃ (y : Int), v89 = .int .i64 y ∧ Aside0 (0 ≤ y ∧ y + kq = ch) ∧ Aside0 (Kd.S (Kd.slice 3 (Kd.int .i64)) 39 w' w.heap.size (fun _ => True) (.slice (some ⟨gO, 0, none⟩) l0_3.length cO) (fx cw ch ps p.toNat y.toNat)) ∧ Aside0 (w'.cell? ⟨gO, p.toNat, none⟩ = some (.slice (some ⟨gp, 0, none⟩) (cw * ch) cp)) ∧ Aside0 (w'.heap[g7]? = some (.cells #[.int .i64 (cw : Int), .int .i64 (ch : Int), .int .i64 a0_2, .slice (some ⟨gO, 0, none⟩) l0_3.length cO] 24 (0, 0))) ∧ Aside0 (w'.heap[g6]? = some (.cells #[.int .i64 0, .int .i64 0, .int .i64 0, .slice none 0 0] 24 (0, 0))) ∧ Aside0 (Below w.heap.size w w'))
            case atStart => exact ⟨0, rfl, ⟨by omega, by omega⟩, HSO, KP, BKg7, BKg6, HB⟩
            case round =>
              clear HSO BKg7 BKg6 HB KP
              obtain ⟨y, rfl, HY, HSO, KP, BKg7, BKg6, HB⟩ := hrel
              cases gk with
              | zero =>
                have hge : decide (y < (ch : Int)) = false := by have := HY.out; simp; omega
                have hy : y.toNat = ch := by have := HY.out; omega
                rw [hy, fx_next] at HSO
                have hw : Aside0 (wrap64 (p + 1) = p + 1 ∧ (p + 1).toNat = p.toNat + 1) := ⟨by have := HPI.out; have := HK.out; unfold wrap64; omega, by have := HPI.out; omega⟩
                go_wp2
                go_roundg kq2
                case measure => omega
                case rel => exact ⟨p + 1, congrArg _ hw.out.1, ⟨by have := HPI.out; omega, by have := HPI.out; omega⟩, ⟨by rw [hw.out.2]; exact HSO.out⟩, BKg7, BKg6, HB⟩
              | succ kq3 =>
                have hy1 : y < (ch : Int) := by have := HY.out; omega
                have yd : decide (y < (ch : Int)) = true := decide_eq_true hy1
                have hch : (ch : Int) ≤ 1000 := by have := HPB.out; omega
                have hcw : (cw : Int) ≤ 1000 := by have := HPB.out; omega
                have e1 : y * (cw : Int) = ((y.toNat * cw : Nat) : Int) := by rw [Int.natCast_mul]; congr 1; have := HY.out; omega
                have e2 : (y + 1) * (cw : Int) = ((y.toNat * cw + cw : Nat) : Int) := by rw [Int.add_mul, e1]; omega
                have b1 : y.toNat * cw + cw ≤ cw * ch := by rw [← Nat.succ_mul, Nat.mul_comm cw ch]; exact Nat.mul_le_mul_right _ (by have := HY.out; omega)
                have hNl := hNpos.out.2
                obtain ⟨gq, cq, okq, kq, hokq, hqN, _, hbq, hlq, ⟨cellsq, hcq⟩, hRq, hcap, hback⟩ := S_row HSO.out p (of_eq_true p0) (of_eq_true p1) _ (fx_row cw ch ps p.toNat y.toNat lp HLP.out.1) (by rw [flipT_length, HLP.out.2]; exact hNpos.out.1)
                rw [flipT_length, HLP.out.2] at kq hRq hback hcap
                have hsame := kq.symm.trans KP.out
                simp only [Option.some.injEq, Value.slice.injEq, Addr.mk.injEq, true_and, and_true] at hsame
                obtain ⟨hs1, hs2⟩ := hsame
                subst hs1; subst hs2
                have HRQ := Aside0.mk hRq
                have HCQ := Aside0.mk hcq
                have HBQ := Aside0.mk hbq
                have HBK := Aside0.mk (And.intro (fun w1 row' a b => hback w1 row' a b) hqN)
                obtain ⟨q1, hq1, v1⟩ : ∃ q, wrap64 (y * (cw : Int)) = q ∧ q = ((y.toNat * cw : Nat) : Int) := ⟨_, rfl, by rw [e1]; unfold wrap64; omega⟩
                obtain ⟨q2, hq2, v2⟩ : ∃ q, wrap64 (y + 1) = q ∧ q = y + 1 := ⟨_, rfl, by have := HY.out; unfold wrap64; omega⟩
                obtain ⟨q3, hq3, v3⟩ : ∃ q, wrap64 (q2 * (cw : Int)) = q ∧ q = ((y.toNat * cw + cw : Nat) : Int) := ⟨_, rfl, by rw [v2, e2]; unfold wrap64; omega⟩
                have hw : Aside0 (q2 = y + 1 ∧ (y + 1).toNat = y.toNat + 1 ∧ q1.toNat = y.toNat * cw ∧ q3.toNat = y.toNat * cw + cw ∧ (q3 - q1).toNat = cw) := ⟨v2, by have := HY.out; omega, by omega, by omega, by omega⟩
                have s1 : decide (0 ≤ q1) = true := decide_eq_true (by omega)
                have s2 : decide (q1 ≤ q3) = true := decide_eq_true (by omega)
                have s3 : decide (q3 ≤ (cq : Int)) = true := decide_eq_true (by omega)
                have r1_ : (0 ≤ q1) = True := eq_true (by omega)
                have r2_ : (q1 ≤ q3) = True := eq_true (by omega)
                have r3_ : (q3 ≤ (cq : Int)) = True := eq_true (by omega)
                have r4_ : (0 ≤ q3) = True := eq_true (by omega)
                have s4 : decide (0 ≤ q3) = true := decide_eq_true (by omega)
                have hc1 := HPB.out.1
                have HT : Aside0 (q1.toNat < cq) := ⟨by omega⟩
                have HMM := Aside0.mk b1
                clear hc1 e1 e2 b1 hNl hch hcw hy1 v1 v2 v3 hcap hback hokq hqN hbq hlq hRq hcq kq
                have k0 : wr.cell? ⟨g7, 0, none⟩ = some (.int .i64 (cw : Int)) := (blk_cell BKg7.out 0).trans rfl
                have k1 : wr.cell? ⟨g7, 1, none⟩ = some (.int .i64 (ch : Int)) := (blk_cell BKg7.out 1).trans rfl
                have k2 : wr.cell? ⟨g7, 2, none⟩ = some (.int .i64 a0_2) := (blk_cell BKg7.out 2).trans rfl
                have k3 : wr.cell? ⟨g7, 3, none⟩ = some (.slice (some ⟨gO, 0, none⟩) l0_3.length cO) := (blk_cell BKg7.out 3).trans rfl
                go_wp2_with (go_at_call 108; (with_reducible refine (Reverse_at _ w.heap.size okq gq (cw * ch) cq (flipT cw lp y.toNat) HRQ.out q1.toNat (q3.toNat - q1.toNat) (cq - q1.toNat) ?hm1 ?hm2).mono ?_); (case hm1 => have := hw.out; have := HMM.out; have := HLP.out.2; rw [flipT_length]; omega); (case hm2 => have := hNpos.out; have := HLP.out.2; rw [flipT_length]; omega); rintro e w9 ⟨rfl, hr9, hg9⟩; have HR9 := Aside0.mk hr9; have HG9 := Aside0.mk hg9; clear hr9 hg9)
                any_goals (exfalso; have := HT.out; omega)
                go_roundg kq3
                case measure => omega
                case rel => exact ⟨y + 1, by rw [hq2, hw.out.1], ⟨by have := HY.out; omega, by have := HY.out; omega⟩, ⟨by
                  have h9 := HR9.out
                  rw [show q3.toNat - q1.toNat = cw by have := hw.out; omega, hw.out.2.2.1] at h9
                  have h10 := HBK.out.1 _ _ HG9.out h9
                  rw [fx_set cw ch ps p.toNat y.toNat lp HLP.out.1] at h10
                  rw [hw.out.2.1]
                  exact h10⟩, ⟨HG9.out.cell KP.out (fun he => HBK.out.2 (by injection he with he; exact he.symm))⟩, ⟨blk_grown BKg7.out HG9.out (fun he => ne_types BKg7.out HCQ.out (by decide) (by injection he))⟩, ⟨blk_grown BKg6.out HG9.out (fun he => ne_types BKg6.out HCQ.out (by decide) (by injection he))⟩, ⟨HB.out.grown HG9.out HB.out.size (fun k hk => by injection hk with hk; subst hk; exact HBQ.out)⟩⟩
    | succ kq1 =>
      have hlt : decide (i < a1) = true := by have := HI.out; simp; omega
      have HBL := Aside0.mk (blank_is (ch : Int) (cw : Int) a0_2 (by have := HPB.out; omega) (by have := HPB.out; omega) l0_3.length (by have := HK.out; omega))
      have k0 : wr.cell? ⟨g7, 0, none⟩ = some (.int .i64 (cw : Int)) := (blk_cell BKg7.out 0).trans rfl
      have k1 : wr.cell? ⟨g7, 1, none⟩ = some (.int .i64 (ch : Int)) := (blk_cell BKg7.out 1).trans rfl
      have k2 : wr.cell? ⟨g7, 2, none⟩ = some (.int .i64 a0_2) := (blk_cell BKg7.out 2).trans rfl
      have k3 : wr.cell? ⟨g7, 3, none⟩ = some (.slice (some ⟨gO, 0, none⟩) l0_3.length cO) := (blk_cell BKg7.out 3).trans rfl
      go_wp2_with (first | (go_at_call 107; (with_reducible refine (item_blank.calls (l0_3.length + 1) (ch : Int) (cw : Int) a0_2 (l0_3.length : Int) _ _ _ _ _ HBL.out).mono ?_); rintro e w7 ⟨v7, rfl, hs7, hb7⟩; obtain ⟨gN, cN, rfl, _, _, _⟩ := Kd.S_form hs7 (by rw [List.length_replicate]; exact HK.out.1.2.2.2.2.1); rw [List.length_replicate]; have HSN := Aside0.mk hs7; rw [List.length_replicate] at HSN; replace HSO := Aside0.mk (Kd.S_old HSO.out hb7); replace BKg7 := Aside0.mk (blk_below BKg7.out hb7); replace BKg6 := Aside0.mk (blk_below BKg6.out hb7); have HB7 := Aside0.mk (pw_below_trans HB.out hb7); have HNB := Aside0.mk hb7.size; clear hs7 hb7) | ((with_reducible refine gate_dst (N := 8) rfl ?_); refine box_event ?hg (N := 8) ?hd (cs := #[.int .i64 0, .int .i64 0, .int .i64 0, .slice none 0 0]) (t := 24) ?hr ?_; (case hd => rfl); (case hg => rfl); (case hr => first | (go_simp; done) | (go_simp; rfl)); intro g8 hgg8 w8 hboxg8 hbg8; have BKg8 := Aside0.mk hboxg8; have GE8 : Aside0 (w.heap.size ≤ g8) := ⟨by have := HB7.out.size; omega⟩; have NE : Aside0 (g6 ≠ g8 ∧ g7 ≠ g8) := ⟨by have := blk_lt BKg6.out; omega, by have := blk_lt BKg7.out; omega⟩; replace BKg6 := Aside0.mk (blk_below BKg6.out hbg8); replace BKg7 := Aside0.mk (blk_below BKg7.out hbg8); have HB8 := Aside0.mk (pw_below_trans HB7.out hbg8); replace HSO := Aside0.mk (Kd.S_below HSO.out hbg8); replace HSN := Aside0.mk (Kd.S_below HSN.out hbg8); replace HNB := Aside0.mk (Nat.le_trans HNB.out hbg8.size); have z0 : w8.cell? ⟨g8, 0, none⟩ = some (.int .i64 0) := (blk_cell BKg8.out 0).trans rfl; have z1 : w8.cell? ⟨g8, 1, none⟩ = some (.int .i64 0) := (blk_cell BKg8.out 1).trans rfl; have z2 : w8.cell? ⟨g8, 2, none⟩ = some (.int .i64 0) := (blk_cell BKg8.out 2).trans rfl; have z3 : w8.cell? ⟨g8, 3, none⟩ = some (.slice none 0 0) := (blk_cell BKg8.out 3).trans rfl; have fz0 := blk_frozen BKg8.out 0; have fz1 := blk_frozen BKg8.out 1; have fz2 := blk_frozen BKg8.out 2; have fz3 := blk_frozen BKg8.out 3; have m7 : ∀ v0 v1 v2 v3 : Value, ((((w8.setCell ⟨g8, 0, none⟩ v0).setCell ⟨g8, 1, none⟩ v1).setCell ⟨g8, 2, none⟩ v2).setCell ⟨g8, 3, none⟩ v3).cell? ⟨g7, 3, none⟩ = some (.slice (some ⟨gO, 0, none⟩) l0_3.length cO) := fun v0 v1 v2 v3 => (blk_cell (four_far BKg7.out NE.out.2 v0 v1 v2 v3) 3).trans rfl; clear hboxg8 hbg8 hgg8))
      clear z0 z1 z2 z3 fz0 fz1 fz2 fz3 k0 k1 k2 k3 m7
      obtain ⟨NB, hNB⟩ : ∃ b, b = wr.heap.size := ⟨_, rfl⟩
      rw [← hNB] at HSO HSN HNB
      have HWN : Aside0 (w.heap.size ≤ NB) := ⟨by rw [hNB]; exact HB.out.size⟩
      have hbl : (List.replicate l0_3.length (List.replicate ((ch : Int) * (cw : Int)).toNat 0) : List (List Int)) = nx cw ch ps 0 0 := by
        rw [nx_zero, HP.out.2.1, show ((ch : Int) * (cw : Int)).toNat = cw * ch by rw [← Int.natCast_mul, Int.toNat_natCast, Nat.mul_comm]]
      rw [hbl] at HSN
      clear hbl hNB HB HBL
      have hNpos : Aside0 (0 < cw * ch ∧ cw * ch ≤ 1000000) := ⟨Nat.mul_pos (by have := HP.out.1.1; exact this) (by have := HP.out.1.2.2.1; exact this), by have := Nat.mul_le_mul HP.out.1.2.1 HP.out.1.2.2.2.1; exact this⟩
      go_loopg [34] l0_3.length (fun kq v34 w' => ∃ (p : Int), v34 = .int .i64 p ∧ Aside0 (0 ≤ p ∧ p + kq = l0_3.length) ∧ Aside0 (Kd.S (Kd.slice 3 (Kd.int .i64)) 39 w' w.heap.size (fun k => True ∧ k < NB) (.slice (some ⟨gO, 0, none⟩) l0_3.length cO) ps) ∧ Aside0 (Kd.S (Kd.slice 3 (Kd.int .i64)) 39 w' NB (fun _ => True) (.slice (some ⟨gN, 0, none⟩) l0_3.length cN) (nx cw ch ps p.toNat 0)) ∧ Aside0 (w'.heap[g7]? = some (.cells #[.int .i64 (cw : Int), .int .i64 (ch : Int), .int .i64 a0_2, .slice (some ⟨gO, 0, none⟩) l0_3.length cO] 24 (0, 0))) ∧ Aside0 (w'.heap[g8]? = some (.cells #[.int .i64 (ch : Int), .int .i64 (cw : Int), .int .i64 a0_2, .slice (some ⟨gN, 0, none⟩) l0_3.length cN] 24 (0, 0))) ∧ Aside0 (w'.heap[g6]? = some (.cells #[.int .i64 0, .int .i64 0, .int .i64 0, .slice none 0 0] 24 (0, 0))) ∧ Aside0 (Below w.heap.size w w') ∧ Aside0 (NB ≤ w'.heap.size))
      case atStart => exact ⟨0, rfl, ⟨by omega, by omega⟩, ⟨four_S HSO.out BKg8.out (by decide) _ _ _ _⟩, ⟨four_S HSN.out BKg8.out (by decide) _ _ _ _⟩, ⟨four_far BKg7.out NE.out.2 _ _ _ _⟩, ⟨four_put BKg8.out _ _ _ _⟩, ⟨four_far BKg6.out NE.out.1 _ _ _ _⟩, ⟨four_below HB8.out GE8.out _ _ _ _⟩, ⟨by simpa [World.setCell] using HNB.out⟩⟩
      case round =>
        clear BKg6 BKg7 BKg8 HSO HSN HNB HB7 HB8
        obtain ⟨p, rfl, HPI, HSO, HSN, BKg7, BKg8, BKg6, HB, HNB⟩ := hrel
        cases gk with
        | zero =>
          have hge : decide (p < (l0_3.length : Int)) = false := by have := HPI.out; simp; omega
          have hpn : p.toNat = ps.length := by have := HPI.out; have := HP.out.2.1; omega
          rw [hpn, nx_last] at HSN
          have k0 : wr.cell? ⟨g8, 0, none⟩ = some (.int .i64 (ch : Int)) := (blk_cell BKg8.out 0).trans rfl
          have k1 : wr.cell? ⟨g8, 1, none⟩ = some (.int .i64 (cw : Int)) := (blk_cell BKg8.out 1).trans rfl
          have k2 : wr.cell? ⟨g8, 2, none⟩ = some (.int .i64 a0_2) := (blk_cell BKg8.out 2).trans rfl
          have k3 : wr.cell? ⟨g8, 3, none⟩ = some (.slice (some ⟨gN, 0, none⟩) l0_3.length cN) := (blk_cell BKg8.out 3).trans rfl
          have z0 : wr.cell? ⟨g7, 0, none⟩ = some (.int .i64 (cw : Int)) := (blk_cell BKg7.out 0).trans rfl
          have z1 : wr.cell? ⟨g7, 1, none⟩ = some (.int .i64 (ch : Int)) := (blk_cell BKg7.out 1).trans rfl
          have z2 : wr.cell? ⟨g7, 2, none⟩ = some (.int .i64 a0_2) := (blk_cell BKg7.out 2).trans rfl
          have z3 : wr.cell? ⟨g7, 3, none⟩ = some (.slice (some ⟨gO, 0, none⟩) l0_3.length cO) := (blk_cell BKg7.out 3).trans rfl
          have f0 := blk_frozen BKg7.out 0
          have f1 := blk_frozen BKg7.out 1
          have f2 := blk_frozen BKg7.out 2
          have f3 := blk_frozen BKg7.out 3
          have hw : Aside0 (wrap64 (i + 1) = i + 1) := ⟨by have := HI.out; have := HK.out; unfold wrap64; omega⟩
          go_wp2
          go_roundg kq1
          case measure => omega
          case rel => exact ⟨i + 1, ch, cw, ps.map (rot1 cw ch), gN, cN, congrArg _ hw.out, ⟨by have := HI.out; omega, by have := HI.out; omega⟩, ⟨HP.out.1.turn, by rw [List.length_map]; exact HP.out.2.1, HP.out.2.2⟩, ⟨four_S (Kd.S_lower HSN.out HWN.out) BKg7.out (by decide) _ _ _ _⟩, ⟨four_put BKg7.out _ _ _ _⟩, ⟨four_far BKg6.out NE67.out _ _ _ _⟩, ⟨four_below HB.out GE7.out _ _ _ _⟩⟩
        | succ kq2 =>
          have p0 : 0 ≤ p := by have := HPI.out; omega
          have p1 : p < (l0_3.length : Int) := by have := HPI.out; omega
          have hpl : p.toNat < ps.length := by have := HP.out.2.1; omega
          have hlp : ps[p.toNat]? = some ps[p.toNat] := List.getElem?_eq_getElem hpl
          have hln : ps[p.toNat].length = cw * ch := HP.out.1.2.2.2.2.2 _ (List.getElem_mem hpl)
          generalize ps[p.toNat] = lp at hlp hln
          have HLP := Aside0.mk (And.intro hlp hln)
          obtain ⟨gp, cp, okp, kp, hokp, _, _, _, _, _, hRp, _, _⟩ := S_row HSO.out p p0 p1 lp hlp (by have := hNpos.out; omega)
          have HRP := Aside0.mk (Kd.R_mono (ok' := fun k => True ∧ k < NB) hRp (fun k hk => (hokp k hk).1))
          clear hRp hokp hlp hln hpl
          have pd : decide (p < (l0_3.length : Int)) = true := decide_eq_true p1
          have pd0 : decide (0 ≤ p) = true := decide_eq_true p0
          replace p0 := eq_true p0
          replace p1 := eq_true p1
          have k81 : wr.cell? ⟨g8, 1, none⟩ = some (.int .i64 (cw : Int)) := (blk_cell BKg8.out 1).trans rfl
          go_wp2
          clear k81 kp
          go_loopg [41] cw (fun kq v41 w' => ∃ (y : Int), v41 = .int .i64 y ∧ Aside0 (0 ≤ y ∧ y + kq = cw) ∧ Aside0 (Kd.S (Kd.slice 3 (Kd.int .i64)) 39 w' w.heap.size (fun k => True ∧ k < NB) (.slice (some ⟨gO, 0, none⟩) l0_3.length cO) ps) ∧ Aside0 ((Kd.int .i64).R 3 w' w.heap.size (fun k => True ∧ k < NB) (.slice (some ⟨gp, 0, none⟩) lp.length cp) lp) ∧ Aside0 (Kd.S (Kd.slice 3 (Kd.int .i64)) 39 w' NB (fun _ => True) (.slice (some ⟨gN, 0, none⟩) l0_3.length cN) (nx cw ch ps p.toNat (y.toNat * ch))) ∧ Aside0 (w'.heap[g7]? = some (.cells #[.int .i64 (cw : Int), .int .i64 (ch : Int), .int .i64 a0_2, .slice (some ⟨gO, 0, none⟩) l0_3.length cO] 24 (0, 0))) ∧ Aside0 (w'.heap[g8]? = some (.cells #[.int .i64 (ch : Int), .int .i64 (cw : Int), .int .i64 a0_2, .slice (some ⟨gN, 0, none⟩) l0_3.length cN] 24 (0, 0))) ∧ Aside0 (w'.heap[g6]? = some (.cells #[.int .i64 0, .int .i64 0, .int .i64 0, .slice none 0 0] 24 (0, 0))) ∧ Aside0 (Below w.heap.size w w') ∧ Aside0 (NB ≤ w'.heap.size))
          case atStart => exact ⟨0, rfl, ⟨by omega, by omega⟩, HSO, HRP, ⟨by simpa using HSN.out⟩, BKg7, BKg8, BKg6, HB, HNB⟩
          case round =>
            clear BKg6 BKg7 BKg8 HSO HSN HNB HB HRP
            obtain ⟨y, rfl, HY, HSO, HRP, HSN, BKg7, BKg8, BKg6, HB, HNB⟩ := hrel
            cases gk with
            | zero =>
              have hge : decide (y < (cw : Int)) = false := by have := HY.out; simp; omega
              have hy : y.toNat = cw := by have := HY.out; omega
              rw [hy, nx_next] at HSN
              have hw : Aside0 (wrap64 (p + 1) = p + 1 ∧ (p + 1).toNat = p.toNat + 1) := ⟨by have := HPI.out; have := HK.out; unfold wrap64; omega, by have := HPI.out; omega⟩
              go_wp2
              go_roundg kq2
              case measure => omega
              case rel => exact ⟨p + 1, congrArg _ hw.out.1, ⟨by have := HPI.out; omega, by have := HPI.out; omega⟩, HSO, ⟨by rw [hw.out.2]; exact HSN.out⟩, BKg7, BKg8, BKg6, HB, HNB⟩
            | succ kq3 =>
              have yd : decide (y < (cw : Int)) = true := by have := HY.out; simp; omega
              have k80 : wr.cell? ⟨g8, 0, none⟩ = some (.int .i64 (ch : Int)) := (blk_cell BKg8.out 0).trans rfl
              go_wp2
              clear k80
              go_loopg [46] ch (fun kq v46 w' => ∃ (x : Int), v46 = .int .i64 x ∧ Aside0 (0 ≤ x ∧ x + kq = ch) ∧ Aside0 (Kd.S (Kd.slice 3 (Kd.int .i64)) 39 w' w.heap.size (fun k => True ∧ k < NB) (.slice (some ⟨gO, 0, none⟩) l0_3.length cO) ps) ∧ Aside0 ((Kd.int .i64).R 3 w' w.heap.size (fun k => True ∧ k < NB) (.slice (some ⟨gp, 0, none⟩) lp.length cp) lp) ∧ Aside0 (Kd.S (Kd.slice 3 (Kd.int .i64)) 39 w' NB (fun _ => True) (.slice (some ⟨gN, 0, none⟩) l0_3.length cN) (nx cw ch ps p.toNat (y.toNat * ch + x.toNat))) ∧ Aside0 (w'.heap[g7]? = some (.cells #[.int .i64 (cw : Int), .int .i64 (ch : Int), .int .i64 a0_2, .slice (some ⟨gO, 0, none⟩) l0_3.length cO] 24 (0, 0))) ∧ Aside0 (w'.heap[g8]? = some (.cells #[.int .i64 (ch : Int), .int .i64 (cw : Int), .int .i64 a0_2, .slice (some ⟨gN, 0, none⟩) l0_3.length cN] 24 (0, 0))) ∧ Aside0 (w'.heap[g6]? = some (.cells #[.int .i64 0, .int .i64 0, .int .i64 0, .slice none 0 0] 24 (0, 0))) ∧ Aside0 (Below w.heap.size w w') ∧ Aside0 (NB ≤ w'.heap.size))
              case atStart => exact ⟨0, rfl, ⟨by omega, by omega⟩, HSO, HRP, ⟨by simpa using HSN.out⟩, BKg7, BKg8, BKg6, HB, HNB⟩
              case round =>
                clear BKg6 BKg7 BKg8 HSO HSN HNB HB HRP
                obtain ⟨x, rfl, HX, HSO, HRP, HSN, BKg7, BKg8, BKg6, HB, HNB⟩ := hrel
                cases gk with
                | zero =>
                  have hge : decide (x < (ch : Int)) = false := by have := HX.out; simp; omega
                  have hx : x.toNat = ch := by have := HX.out; omega
                  rw [hx, show y.toNat * ch + ch = (y.toNat + 1) * ch by rw [Nat.add_mul, Nat.one_mul]] at HSN
                  have hw : Aside0 (wrap64 (y + 1) = y + 1 ∧ (y + 1).toNat = y.toNat + 1) := ⟨by have := HY.out; have := HPB.out; unfold wrap64; omega, by have := HY.out; omega⟩
                  go_wp2
                  go_roundg kq3
                  case measure => omega
                  case rel => exact ⟨y + 1, congrArg _ hw.out.1, ⟨by have := HY.out; omega, by have := HY.out; omega⟩, HSO, HRP, ⟨by rw [hw.out.2]; exact HSN.out⟩, BKg7, BKg8, BKg6, HB, HNB⟩
                | succ kq4 =>
                      have hx1 : x < (ch : Int) := by have := HX.out; omega
                      have hy1 : y < (cw : Int) := by have := HY.out; omega
                      have xd : decide (x < (ch : Int)) = true := decide_eq_true hx1
                      have hch : (ch : Int) ≤ 1000 := by have := HPB.out; omega
                      have hcw : (cw : Int) ≤ 1000 := by have := HPB.out; omega
                      have e1 : y * (ch : Int) = ((y.toNat * ch : Nat) : Int) := by rw [Int.natCast_mul]; congr 1; have := HY.out; omega
                      have b1 : y.toNat * ch + ch ≤ cw * ch := by rw [← Nat.succ_mul]; exact Nat.mul_le_mul_right _ (by have := HY.out; omega)
                      have e2 : ((ch : Int) - 1 - x) * (cw : Int) = (((ch - 1 - x.toNat) * cw : Nat) : Int) := by rw [Int.natCast_mul]; congr 1; have := HX.out; omega
                      have b2 : (ch - 1 - x.toNat) * cw + cw ≤ cw * ch := by rw [← Nat.succ_mul, Nat.mul_comm cw ch]; exact Nat.mul_le_mul_right _ (by have := HX.out; omega)
                      have hNl := hNpos.out.2
                      have ht : Aside0 (y.toNat * ch + x.toNat < cw * ch ∧ (y.toNat * ch + x.toNat) % ch = x.toNat ∧ (y.toNat * ch + x.toNat) / ch = y.toNat) := ⟨by have := HX.out; omega, by rw [Nat.mul_comm, Nat.mul_add_mod, Nat.mod_eq_of_lt (by have := HX.out; omega)], by rw [Nat.mul_comm, Nat.mul_add_div (by have := HX.out; omega), Nat.div_eq_of_lt (by have := HX.out; omega), Nat.add_zero]⟩
                      obtain ⟨q1, hq1, v1⟩ : ∃ q, wrap64 (y * (ch : Int)) = q ∧ q = ((y.toNat * ch : Nat) : Int) := ⟨_, rfl, by rw [e1]; unfold wrap64; omega⟩
                      obtain ⟨q2, hq2, v2⟩ : ∃ q, wrap64 (q1 + x) = q ∧ q = ((y.toNat * ch + x.toNat : Nat) : Int) := ⟨_, rfl, by rw [v1]; have := HX.out; unfold wrap64; omega⟩
                      obtain ⟨q3, hq3, v3⟩ : ∃ q, wrap64 ((ch : Int) - 1) = q ∧ q = (ch : Int) - 1 := ⟨_, rfl, by unfold wrap64; omega⟩
                      obtain ⟨q4, hq4, v4⟩ : ∃ q, wrap64 (q3 - x) = q ∧ q = (ch : Int) - 1 - x := ⟨_, rfl, by rw [v3]; have := HX.out; unfold wrap64; omega⟩
                      obtain ⟨q5, hq5, v5⟩ : ∃ q, wrap64 (q4 * (cw : Int)) = q ∧ q = (((ch - 1 - x.toNat) * cw : Nat) : Int) := ⟨_, rfl, by rw [v4, e2]; unfold wrap64; omega⟩
                      obtain ⟨q6, hq6, v6⟩ : ∃ q, wrap64 (q5 + y) = q ∧ q = (((ch - 1 - x.toNat) * cw + y.toNat : Nat) : Int) := ⟨_, rfl, by rw [v5]; have := HY.out; unfold wrap64; omega⟩
                      have u0 : 0 ≤ q6 := by omega
                      have u1 : q6 < (lp.length : Int) := by have := HLP.out.2; have := HY.out; omega
                      have nrow := nx_row cw ch ps p.toNat (y.toNat * ch + x.toNat) lp HLP.out.1
                      have nlen := nxr_length cw ch lp (y.toNat * ch + x.toNat) (Nat.le_of_lt ht.out.1)
                      have nset := nx_set cw ch ps p.toNat (y.toNat * ch + x.toNat) lp HLP.out.1 ht.out.1 (rdOf 0 lp q6) (by rw [ht.out.2.1, ht.out.2.2]; show lp.getD q6.toNat 0 = _; rw [v6, Int.toNat_natCast])
                      obtain ⟨gq, cq, okq, kq, hokq, hqN, _, hbq, hlq, ⟨cellsq, hcq⟩, hRq, _, hback⟩ := S_row (Kd.S_drew HSN.out) p (of_eq_true p0) (of_eq_true p1) _ nrow (by rw [nlen]; exact hNpos.out.1)
                      obtain ⟨cx, fx_⟩ := Kd.R_celln 0 HRP.out q6 u0 u1
                      have w0_ : 0 ≤ q2 := by omega
                      have w1_ : q2 < ((nxr cw ch lp (y.toNat * ch + x.toNat)).length : Int) := by rw [nlen]; have := ht.out.1; omega
                      obtain ⟨cn, fn⟩ := Kd.R_celln 0 hRq q2 w0_ w1_
                      have hp3 := Kd.R_putg hRq q2 (rdOf 0 lp q6)
                      have hS3 := hback _ _ hp3.2 hp3.1
                      rw [show q2.toNat = y.toNat * ch + x.toNat by omega, nset] at hS3
                      have HQT : Aside0 (q2.toNat = y.toNat * ch + x.toNat) := ⟨by omega⟩
                      rw [← HQT.out] at hS3
                      have HS3 := Aside0.mk hS3
                      have HCQ := Aside0.mk hcq
                      have HBQ := Aside0.mk (And.intro hbq (Nat.le_trans HWN.out hbq))
                      have u0d : decide (0 ≤ q6) = true := decide_eq_true u0
                      have u1d : decide (q6 < (lp.length : Int)) = true := decide_eq_true u1
                      have w0d : decide (0 ≤ q2) = true := decide_eq_true w0_
                      have w1d : decide (q2 < ((nxr cw ch lp (y.toNat * ch + x.toNat)).length : Int)) = true := decide_eq_true w1_
                      clear hS3 hp3 hback hRq nset nrow nlen hokq hqN hbq hlq hcq v1 v2 v3 v4 v5 v6 e1 e2 b1 b2 hNl hch hcw hx1 hy1 fx_
                      generalize rdOf 0 lp q6 = vx at *
                      generalize (nxr cw ch lp (y.toNat * ch + x.toNat)).length = LN at *
                      have hw : Aside0 (wrap64 (x + 1) = x + 1 ∧ (x + 1).toNat = x.toNat + 1) := ⟨by have := HX.out; have := HPB.out; unfold wrap64; omega, by have := HX.out; omega⟩
                      replace u0 := eq_true u0
                      replace u1 := eq_true u1
                      replace w0_ := eq_true w0_
                      replace w1_ := eq_true w1_
                      have k83 : wr.cell? ⟨g8, 3, none⟩ = some (.slice (some ⟨gN, 0, none⟩) l0_3.length cN) := (blk_cell BKg8.out 3).trans rfl
                      have k80 : wr.cell? ⟨g8, 0, none⟩ = some (.int .i64 (ch : Int)) := (blk_cell BKg8.out 0).trans rfl
                      have k71 : wr.cell? ⟨g7, 1, none⟩ = some (.int .i64 (ch : Int)) := (blk_cell BKg7.out 1).trans rfl
                      have k70 : wr.cell? ⟨g7, 0, none⟩ = some (.int .i64 (cw : Int)) := (blk_cell BKg7.out 0).trans rfl
                      go_wp2
                      refine start_ (n := 26) (S := fun w' => w'.cell? ⟨g8, 3, none⟩ = some (.slice (some ⟨gN, 0, none⟩) l0_3.length cN) ∧ w'.cell? ⟨gN, p.toNat, none⟩ = some (.slice (some ⟨gq, 0, none⟩) LN cq) ∧ w'.cell? ⟨g8, 0, none⟩ = some (.int .i64 (ch : Int)) ∧ w'.cell? ⟨g7, 1, none⟩ = some (.int .i64 (ch : Int)) ∧ w'.cell? ⟨g7, 0, none⟩ = some (.int .i64 (cw : Int)) ∧ w'.cell? ⟨gp, q6.toNat, none⟩ = some (.int .i64 vx)) (ds := [25]) #[false, false, false, false, false, false, false, false, false, false, false, false, false, false, false, false, false, false, false, false, false, false, false, false, false, false] (by kernel_rfl) rfl rfl ⟨k83, kq, k80, k71, k70, cx⟩ (fun hHeld => ?_); refine with_tabW item_turned.tab14 item_turned.bits14 (fun HT_ HW_ => ?_)
                      replace HSO := Aside0.mk (Kd.S_drew HSO.out)
                      replace HRP := Aside0.mk (Kd.R_drew HRP.out)
                      replace BKg7 := Aside0.mk (blk_drew BKg7.out)
                      replace BKg8 := Aside0.mk (blk_drew BKg8.out)
                      replace BKg6 := Aside0.mk (blk_drew BKg6.out)
                      replace HB := Aside0.mk (below_drew1 HB.out)
                      replace HNB : Aside0 (NB ≤ wr.drew.heap.size) := HNB
                      clear HSN k83 k80 k71 k70
                      replace cx : wr.drew.cell? ⟨gp, q6.toNat, none⟩ = some (.int .i64 vx) := cx
                      generalize wr.drew = wd at *
                      refine pure_ (i := 0) (N := some 49) (v := ?_) (a' := ?_) #[true, false, false, false, false, false, false, false, false, false, false, false, false, false, false, false, false, false, false, false, false, false, false, false, false, false] rfl rfl (any_of HT_.out (by kernel_rfl)) (fun _ _ _ h => h) (Or.inl ⟨by rfl, ?_⟩) ?_ ?_
                      rotate_left
                      · intro w'
                        go_simp
                        with_reducible rfl
                      rotate_left
                      · simp only [Act.put, List.setIfInBounds_toArray, List.set_cons_zero, List.set_cons_succ, i64_w, i32_w, hq1, hq2, hq3, hq4, hq5, hq6]
                        rfl
                      refine pure_ (i := 2) (N := some 51) (v := ?_) (a' := ?_) #[true, false, true, false, false, false, false, false, false, false, false, false, false, false, false, false, false, false, false, false, false, false, false, false, false, false] rfl rfl (any_of HT_.out (by kernel_rfl)) (fun _ _ _ h => h) (Or.inl ⟨by rfl, ?_⟩) ?_ ?_
                      rotate_left
                      · intro w'
                        go_simp
                        with_reducible rfl
                      rotate_left
                      · simp only [Act.put, List.setIfInBounds_toArray, List.set_cons_zero, List.set_cons_succ, i64_w, i32_w, hq1, hq2, hq3, hq4, hq5, hq6]
                        rfl
                      refine pure_ (i := 5) (N := some 54) (v := ?_) (a' := ?_) #[true, false, true, false, false, true, false, false, false, false, false, false, false, false, false, false, false, false, false, false, false, false, false, false, false, false] rfl rfl (any_of HT_.out (by kernel_rfl)) (fun _ _ _ h => h) (Or.inl ⟨by rfl, ?_⟩) ?_ ?_
                      rotate_left
                      · intro w'
                        go_simp
                        with_reducible rfl
                      rotate_left
                      · simp only [Act.put, List.setIfInBounds_toArray, List.set_cons_zero, List.set_cons_succ, i64_w, i32_w, hq1, hq2, hq3, hq4, hq5, hq6]
                        rfl
                      refine pure_ (i := 6) (N := some 55) (v := ?_) (a' := ?_) #[true, false, true, false, false, true, true, false, false, false, false, false, false, false, false, false, false, false, false, false, false, false, false, false, false, false] rfl rfl (any_of HT_.out (by kernel_rfl)) (fun _ _ _ h => h) (Or.inl ⟨by rfl, ?_⟩) ?_ ?_
                      rotate_left
                      · intro w'
                        go_simp
                        with_reducible rfl
                      rotate_left
                      · simp only [Act.put, List.setIfInBounds_toArray, List.set_cons_zero, List.set_cons_succ, i64_w, i32_w, hq1, hq2, hq3, hq4, hq5, hq6]
                        rfl
                      refine pure_ (i := 9) (N := some 58) (v := ?_) (a' := ?_) #[true, false, true, false, false, true, true, false, false, true, false, false, false, false, false, false, false, false, false, false, false, false, false, false, false, false] rfl rfl (any_of HT_.out (by kernel_rfl)) (fun _ _ _ h => h) (Or.inl ⟨by rfl, ?_⟩) ?_ ?_
                      rotate_left
                      · intro w'
                        go_simp
                        with_reducible rfl
                      rotate_left
                      · simp only [Act.put, List.setIfInBounds_toArray, List.set_cons_zero, List.set_cons_succ, i64_w, i32_w, hq1, hq2, hq3, hq4, hq5, hq6]
                        rfl
                      refine pure_ (i := 11) (N := some 60) (v := ?_) (a' := ?_) #[true, false, true, false, false, true, true, false, false, true, false, true, false, false, false, false, false, false, false, false, false, false, false, false, false, false] rfl rfl (any_of HT_.out (by kernel_rfl)) (fun _ _ _ h => h) (Or.inl ⟨by rfl, ?_⟩) ?_ ?_
                      rotate_left
                      · intro w'
                        go_simp
                        with_reducible rfl
                      rotate_left
                      · simp only [Act.put, List.setIfInBounds_toArray, List.set_cons_zero, List.set_cons_succ, i64_w, i32_w, hq1, hq2, hq3, hq4, hq5, hq6]
                        rfl
                      refine pure_ (i := 12) (N := some 61) (v := ?_) (a' := ?_) #[true, false, true, false, false, true, true, false, false, true, false, true, true, false, false, false, false, false, false, false, false, false, false, false, false, false] rfl rfl (any_of HT_.out (by kernel_rfl)) (fun _ _ _ h => h) (Or.inl ⟨by rfl, ?_⟩) ?_ ?_
                      rotate_left
                      · intro w'
                        go_simp
                        with_reducible rfl
                      rotate_left
                      · simp only [Act.put, List.setIfInBounds_toArray, List.set_cons_zero, List.set_cons_succ, i64_w, i32_w, hq1, hq2, hq3, hq4, hq5, hq6]
                        rfl
                      refine pure_ (i := 15) (N := some 64) (v := ?_) (a' := ?_) #[true, false, true, false, false, true, true, false, false, true, false, true, true, false, false, true, false, false, false, false, false, false, false, false, false, false] rfl rfl (any_of HT_.out (by kernel_rfl)) (fun _ _ _ h => h) (Or.inl ⟨by rfl, ?_⟩) ?_ ?_
                      rotate_left
                      · intro w'
                        go_simp
                        with_reducible rfl
                      rotate_left
                      · simp only [Act.put, List.setIfInBounds_toArray, List.set_cons_zero, List.set_cons_succ, i64_w, i32_w, hq1, hq2, hq3, hq4, hq5, hq6]
                        rfl
                      refine pure_ (i := 17) (N := some 66) (v := ?_) (a' := ?_) #[true, false, true, false, false, true, true, false, false, true, false, true, true, false, false, true, false, true, false, false, false, false, false, false, false, false] rfl rfl (any_of HT_.out (by kernel_rfl)) (fun _ _ _ h => h) (Or.inl ⟨by rfl, ?_⟩) ?_ ?_
                      rotate_left
                      · intro w'
                        go_simp
                        with_reducible rfl
                      rotate_left
                      · simp only [Act.put, List.setIfInBounds_toArray, List.set_cons_zero, List.set_cons_succ, i64_w, i32_w, hq1, hq2, hq3, hq4, hq5, hq6]
                        rfl
                      refine pure_ (i := 20) (N := some 69) (v := ?_) (a' := ?_) #[true, false, true, false, false, true, true, false, false, true, false, true, true, false, false, true, false, true, false, false, true, false, false, false, false, false] rfl rfl (any_of HT_.out (by kernel_rfl)) (fun _ _ _ h => h) (Or.inl ⟨by rfl, ?_⟩) ?_ ?_
                      rotate_left
                      · intro w'
                        go_simp
                        with_reducible rfl
                      rotate_left
                      · simp only [Act.put, List.setIfInBounds_toArray, List.set_cons_zero, List.set_cons_succ, i64_w, i32_w, hq1, hq2, hq3, hq4, hq5, hq6]
                        rfl
                      refine take_ (i := 1) (N := some 50) (v := ?_) (a' := ?_) #[true, true, true, false, false, true, true, false, false, true, false, true, true, false, false, true, false, true, false, false, true, false, false, false, false, false] rfl rfl (take_ofW HT_.out HW_.out (by kernel_rfl)) (fun _ _ _ h => h) (Or.inl ⟨by rfl, ?_⟩) hHeld ?_ ?_
                      rotate_left
                      · rintro w' ⟨s0, s1, s2, s3, s4, s5⟩
                        go_simp
                        with_reducible rfl
                      rotate_left
                      · simp only [Act.put, List.setIfInBounds_toArray, List.set_cons_zero, List.set_cons_succ, i64_w, i32_w, hq1, hq2, hq3, hq4, hq5, hq6]
                        rfl
                      refine pure_ (i := 3) (N := some 52) (v := ?_) (a' := ?_) #[true, true, true, true, false, true, true, false, false, true, false, true, true, false, false, true, false, true, false, false, true, false, false, false, false, false] rfl rfl (any_of HT_.out (by kernel_rfl)) (fun _ _ _ h => h) (Or.inl ⟨by rfl, ?_⟩) ?_ ?_
                      rotate_left
                      · intro w'
                        go_simp
                        with_reducible rfl
                      rotate_left
                      · simp only [Act.put, List.setIfInBounds_toArray, List.set_cons_zero, List.set_cons_succ, i64_w, i32_w, hq1, hq2, hq3, hq4, hq5, hq6]
                        rfl
                      refine take_ (i := 4) (N := some 53) (v := ?_) (a' := ?_) #[true, true, true, true, true, true, true, false, false, true, false, true, true, false, false, true, false, true, false, false, true, false, false, false, false, false] rfl rfl (take_ofW HT_.out HW_.out (by kernel_rfl)) (fun _ _ _ h => h) (Or.inl ⟨by rfl, ?_⟩) hHeld ?_ ?_
                      rotate_left
                      · rintro w' ⟨s0, s1, s2, s3, s4, s5⟩
                        go_simp
                        with_reducible rfl
                      rotate_left
                      · simp only [Act.put, List.setIfInBounds_toArray, List.set_cons_zero, List.set_cons_succ, i64_w, i32_w, hq1, hq2, hq3, hq4, hq5, hq6]
                        rfl
                      refine take_ (i := 7) (N := some 56) (v := ?_) (a' := ?_) #[true, true, true, true, true, true, true, true, false, true, false, true, true, false, false, true, false, true, false, false, true, false, false, false, false, false] rfl rfl (take_ofW HT_.out HW_.out (by kernel_rfl)) (fun _ _ _ h => h) (Or.inl ⟨by rfl, ?_⟩) hHeld ?_ ?_
                      rotate_left
                      · rintro w' ⟨s0, s1, s2, s3, s4, s5⟩
                        go_simp
                        with_reducible rfl
                      rotate_left
                      · simp only [Act.put, List.setIfInBounds_toArray, List.set_cons_zero, List.set_cons_succ, i64_w, i32_w, hq1, hq2, hq3, hq4, hq5, hq6]
                        rfl
                      refine pure_ (i := 8) (N := some 57) (v := ?_) (a' := ?_) #[true, true, true, true, true, true, true, true, true, true, false, true, true, false, false, true, false, true, false, false, true, false, false, false, false, false] rfl rfl (any_of HT_.out (by kernel_rfl)) (fun _ _ _ h => h) (Or.inl ⟨by rfl, ?_⟩) ?_ ?_
                      rotate_left
                      · intro w'
                        go_simp
                        with_reducible rfl
                      rotate_left
                      · simp only [Act.put, List.setIfInBounds_toArray, List.set_cons_zero, List.set_cons_succ, i64_w, i32_w, hq1, hq2, hq3, hq4, hq5, hq6]
                        rfl
                      refine pure_ (i := 10) (N := some 59) (v := ?_) (a' := ?_) #[true, true, true, true, true, true, true, true, true, true, true, true, true, false, false, true, false, true, false, false, true, false, false, false, false, false] rfl rfl (any_of HT_.out (by kernel_rfl)) (fun _ _ _ h => h) (Or.inl ⟨by rfl, ?_⟩) ?_ ?_
                      rotate_left
                      · intro w'
                        go_simp
                        with_reducible rfl
                      rotate_left
                      · simp only [Act.put, List.setIfInBounds_toArray, List.set_cons_zero, List.set_cons_succ, i64_w, i32_w, hq1, hq2, hq3, hq4, hq5, hq6]
                        rfl
                      refine take_ (i := 13) (N := some 62) (v := ?_) (a' := ?_) #[true, true, true, true, true, true, true, true, true, true, true, true, true, true, false, true, false, true, false, false, true, false, false, false, false, false] rfl rfl (take_ofW HT_.out HW_.out (by kernel_rfl)) (fun _ _ _ h => h) (Or.inl ⟨by rfl, ?_⟩) hHeld ?_ ?_
                      rotate_left
                      · rintro w' ⟨s0, s1, s2, s3, s4, s5⟩
                        go_simp
                        with_reducible rfl
                      rotate_left
                      · simp only [Act.put, List.setIfInBounds_toArray, List.set_cons_zero, List.set_cons_succ, i64_w, i32_w, hq1, hq2, hq3, hq4, hq5, hq6]
                        rfl
                      refine pure_ (i := 14) (N := some 63) (v := ?_) (a' := ?_) #[true, true, true, true, true, true, true, true, true, true, true, true, true, true, true, true, false, true, false, false, true, false, false, false, false, false] rfl rfl (any_of HT_.out (by kernel_rfl)) (fun _ _ _ h => h) (Or.inl ⟨by rfl, ?_⟩) ?_ ?_
                      rotate_left
                      · intro w'
                        go_simp
                        with_reducible rfl
                      rotate_left
                      · simp only [Act.put, List.setIfInBounds_toArray, List.set_cons_zero, List.set_cons_succ, i64_w, i32_w, hq1, hq2, hq3, hq4, hq5, hq6]
                        rfl
                      refine pure_ (i := 16) (N := some 65) (v := ?_) (a' := ?_) #[true, true, true, true, true, true, true, true, true, true, true, true, true, true, true, true, true, true, false, false, true, false, false, false, false, false] rfl rfl (any_of HT_.out (by kernel_rfl)) (fun _ _ _ h => h) (Or.inl ⟨by rfl, ?_⟩) ?_ ?_
                      rotate_left
                      · intro w'
                        go_simp
                        with_reducible rfl
                      rotate_left
                      · simp only [Act.put, List.setIfInBounds_toArray, List.set_cons_zero, List.set_cons_succ, i64_w, i32_w, hq1, hq2, hq3, hq4, hq5, hq6]
                        rfl
                      refine take_ (i := 18) (N := some 67) (v := ?_) (a' := ?_) #[true, true, true, true, true, true, true, true, true, true, true, true, true, true, true, true, true, true, true, false, true, false, false, false, false, false] rfl rfl (take_ofW HT_.out HW_.out (by kernel_rfl)) (fun _ _ _ h => h) (Or.inl ⟨by rfl, ?_⟩) hHeld ?_ ?_
                      rotate_left
                      · rintro w' ⟨s0, s1, s2, s3, s4, s5⟩
                        go_simp
                        with_reducible rfl
                      rotate_left
                      · simp only [Act.put, List.setIfInBounds_toArray, List.set_cons_zero, List.set_cons_succ, i64_w, i32_w, hq1, hq2, hq3, hq4, hq5, hq6]
                        rfl
                      refine pure_ (i := 19) (N := some 68) (v := ?_) (a' := ?_) #[true, true, true, true, true, true, true, true, true, true, true, true, true, true, true, true, true, true, true, true, true, false, false, false, false, false] rfl rfl (any_of HT_.out (by kernel_rfl)) (fun _ _ _ h => h) (Or.inl ⟨by rfl, ?_⟩) ?_ ?_
                      rotate_left
                      · intro w'
                        go_simp
                        with_reducible rfl
                      rotate_left
                      · simp only [Act.put, List.setIfInBounds_toArray, List.set_cons_zero, List.set_cons_succ, i64_w, i32_w, hq1, hq2, hq3, hq4, hq5, hq6]
                        rfl
                      refine pure_ (i := 21) (N := some 70) (v := ?_) (a' := ?_) #[true, true, true, true, true, true, true, true, true, true, true, true, true, true, true, true, true, true, true, true, true, true, false, false, false, false] rfl rfl (any_of HT_.out (by kernel_rfl)) (fun _ _ _ h => h) (Or.inl ⟨by rfl, ?_⟩) ?_ ?_
                      rotate_left
                      · intro w'
                        go_simp
                        with_reducible rfl
                      rotate_left
                      · simp only [Act.put, List.setIfInBounds_toArray, List.set_cons_zero, List.set_cons_succ, i64_w, i32_w, hq1, hq2, hq3, hq4, hq5, hq6]
                        rfl
                      refine pure_ (i := 22) (N := some 71) (v := ?_) (a' := ?_) #[true, true, true, true, true, true, true, true, true, true, true, true, true, true, true, true, true, true, true, true, true, true, true, false, false, false] rfl rfl (any_of HT_.out (by kernel_rfl)) (fun _ _ _ h => h) (Or.inl ⟨by rfl, ?_⟩) ?_ ?_
                      rotate_left
                      · intro w'
                        go_simp
                        with_reducible rfl
                      rotate_left
                      · simp only [Act.put, List.setIfInBounds_toArray, List.set_cons_zero, List.set_cons_succ, i64_w, i32_w, hq1, hq2, hq3, hq4, hq5, hq6]
                        rfl
                      refine take_ (i := 23) (N := some 72) (v := ?_) (a' := ?_) #[true, true, true, true, true, true, true, true, true, true, true, true, true, true, true, true, true, true, true, true, true, true, true, true, false, false] rfl rfl (take_ofW HT_.out HW_.out (by kernel_rfl)) (fun _ _ _ h => h) (Or.inl ⟨by rfl, ?_⟩) hHeld ?_ ?_
                      rotate_left
                      · rintro w' ⟨s0, s1, s2, s3, s4, s5⟩
                        go_simp
                        with_reducible rfl
                      rotate_left
                      · simp only [Act.put, List.setIfInBounds_toArray, List.set_cons_zero, List.set_cons_succ, i64_w, i32_w, hq1, hq2, hq3, hq4, hq5, hq6]
                        rfl
                      refine pure_ (i := 24) (N := some 73) (v := ?_) (a' := ?_) #[true, true, true, true, true, true, true, true, true, true, true, true, true, true, true, true, true, true, true, true, true, true, true, true, true, false] rfl rfl (any_of HT_.out (by kernel_rfl)) (fun _ _ _ h => h) (Or.inl ⟨by rfl, ?_⟩) ?_ ?_
                      rotate_left
                      · intro w'
                        go_simp
                        with_reducible rfl
                      rotate_left
                      · simp only [Act.put, List.setIfInBounds_toArray, List.set_cons_zero, List.set_cons_succ, i64_w, i32_w, hq1, hq2, hq3, hq4, hq5, hq6]
                        rfl
                      refine last_ (i := 25) (N := none) #[true, true, true, true, true, true, true, true, true, true, true, true, true, true, true, true, true, true, true, true, true, true, true, true, true, true] rfl rfl (one_of HT_.out (by kernel_rfl)) (by decide) (fun K hK => ?_)
                      refine skip_ (w1 := ?_) (by rfl) rfl ?_ ?_
                      rotate_left
                      · go_simp
                        rfl
                      refine hK.out _ _ ?_
                      clear hK K
                      refine done_ (done_of HT_.out (by kernel_rfl)) ?_
                      go_wp2
                      go_roundg kq4
                      case measure => omega
                      case rel => exact ⟨x + 1, congrArg _ hw.out.1, ⟨by have := HX.out; omega, by have := HX.out; omega⟩, ⟨Kd.S_far HSO.out (fun k hk he => by have he : k = gq := he; have := HBQ.out.1; have := hk.2; omega) _⟩, ⟨Kd.R_step HRP.out (fun k hk _ => Below.heap_setCell wd _ _ k (fun he => by have he : k = gq := he; have := HBQ.out.1; have := hk.2; omega))⟩, ⟨by rw [hw.out.2, ← Nat.add_assoc, ← HQT.out]; exact HS3.out⟩, ⟨blk_far BKg7.out (ne_types BKg7.out HCQ.out (by decide)) _⟩, ⟨blk_far BKg8.out (ne_types BKg8.out HCQ.out (by decide)) _⟩, ⟨blk_far BKg6.out (ne_types BKg6.out HCQ.out (by decide)) _⟩, ⟨below_set HB.out HBQ.out.2⟩, ⟨by simpa [World.setCell] using HNB.out⟩⟩
end Go.Proofs.YtphkionjjhhhlaaGreat.Q
end
section
namespace Go.Proofs.YtphkionjjhhhlaaGreat.Q
open Go.RowKit Go.Proofs.YtphkionjjhhhlaaGreatW.PrintWords Go.Proofs.YtphkionjjhhhlaaGreatW.PrintLast Go.Proofs.YtphkionjjhhhlaaGreatW.PrintMore
theorem copy_ints (l : List Int) (hl : l.length ≤ 10000000) : ∀ (n j : Nat), j + n = l.length → Ev fun k => dioramaref00_CopyInts.l0 k l (l.take j) j = some l := by
  intro n
  induction n with
  | zero =>
    intro j hj
    refine Ev.const (fun k => ?_)
    rw [dioramaref00_CopyInts.l0, if_neg (by omega), List.take_of_length_le (by omega)]
  | succ n ih =>
    intro j hj
    have hjl : j < l.length := by omega
    have hx : l[j]? = some l[j] := List.getElem?_eq_getElem hjl
    refine Ev.step (fun k => ?_) (ih (j + 1) (by omega))
    rw [dioramaref00_CopyInts.l0, if_pos (by omega), if_pos (by omega), if_pos (by rw [List.length_take]; omega), w64_succ j (by omega), rd_at l j _ hx, List.take_add_one, hx]
    rfl
theorem copy_row (l : List Int) (hl : l.length ≤ 10000000) : Ev fun k => dioramaref00_CopyInts.f k l = some l := by
  obtain ⟨K, hK⟩ := copy_ints l hl l.length 0 (by omega)
  refine ⟨K, fun k hk => ?_⟩
  show dioramaref00_CopyInts.f k l = some l
  unfold dioramaref00_CopyInts.f
  rw [if_pos (by omega)]
  exact hK k hk
theorem copy_rows (ps : List (List Int)) (hn : ps.length ≤ 1000) (hr : ∀ r ∈ ps, r.length ≤ 10000000) : ∀ (n j : Nat), j + n = ps.length → Ev fun k => dioramaref00_CopyRows.l0 k ps (ps.take j) j = some ps := by
  intro n
  induction n with
  | zero =>
    intro j hj
    refine Ev.const (fun k => ?_)
    rw [dioramaref00_CopyRows.l0, if_neg (by omega), List.take_of_length_le (by omega)]
  | succ n ih =>
    intro j hj
    have hjl : j < ps.length := by omega
    have hx : ps[j]? = some ps[j] := List.getElem?_eq_getElem hjl
    refine Ev.step (g := fun k => (dioramaref00_CopyInts.f k ps[j]).bind fun t => dioramaref00_CopyRows.l0 k ps (ps.take j ++ [t]) ((j + 1 : Nat) : Int)) (fun k => ?_) (Ev.bind (copy_row _ (hr _ (List.getElem_mem hjl))) ?_)
    · rw [dioramaref00_CopyRows.l0, if_pos (by omega), if_pos (by omega), w64_succ j (by omega), rdL1_at ps j _ hx]
      congr 1
      funext t
      rw [if_pos (by rw [List.length_take]; omega)]
    · have := ih (j + 1) (by omega)
      rw [List.take_add_one, hx] at this
      exact this
theorem copy_image (a b c : Int) (ps : List (List Int)) (hn : ps.length ≤ 1000) (hr : ∀ r ∈ ps, r.length ≤ 10000000) : Ev fun k => dioramaref00_CopyImage.f k a b c ps = some (a, b, c, ps) := by
  obtain ⟨K, hK⟩ := copy_rows ps hn hr ps.length 0 (by omega)
  refine ⟨K, fun k hk => ?_⟩
  show dioramaref00_CopyImage.f k a b c ps = some (a, b, c, ps)
  have h1 : dioramaref00_CopyRows.f k ps = some ps := by
    unfold dioramaref00_CopyRows.f
    rw [if_pos (by omega)]
    exact hK k hk
  unfold dioramaref00_CopyImage.f
  rw [h1]
  rfl
theorem okPic.len {s : Nat × Nat × List (List Int)} (h : okPic s) : ∀ r ∈ s.2.2, r.length ≤ 10000000 := fun r hr => by
  have h1 := h.2.2.2.2.2 r hr
  have h2 := Nat.mul_le_mul h.2.1 h.2.2.2.1
  omega
theorem t_l0 (c : Int) (q : Nat) (hq : q ≤ 3) (fl : Bool) : ∀ (m i : Nat) (s : Nat × Nat × List (List Int)), i + m = q → okPic s → s.2.2.length ≤ 900 →
    Ev fun k => dioramaref15_turned.l0 k (q : Int) fl (i : Int) (s.1 : Int) (s.2.1 : Int) c s.2.2 = some (((turnN m s).1 : Int), ((turnN m s).2.1 : Int), c, if fl = true then (turnN m s).2.2.map (flipP (turnN m s).1 (turnN m s).2.1) else (turnN m s).2.2) := by
  intro m
  induction m with
  | zero =>
    intro i s hi hs hn
    obtain ⟨h1, h2, h3, h4, h5, h6⟩ := hs
    cases fl with
    | true =>
      refine Ev.step (fun k => ?_) (t_l4 s.1 s.2.1 ⟨h1, h2⟩ ⟨h3, h4⟩ c s.2.2 (s.1 : Int) (s.2.1 : Int) c h6 hn s.2.2.length 0 [] (by omega) rfl)
      rw [dioramaref15_turned.l0, if_neg (by omega), if_pos rfl, show (0 : Int) = ((0 : Nat) : Int) from rfl]
    | false =>
      refine Ev.step (g := fun k => (dioramaref00_CopyImage.f k s.1 s.2.1 c s.2.2).bind fun bt => some (bt.1, bt.2.1, bt.2.2.1, bt.2.2.2)) (fun k => ?_) (Ev.bind (copy_image _ _ c s.2.2 (by omega) (okPic.len ⟨h1, h2, h3, h4, h5, h6⟩)) ⟨0, fun k _ => rfl⟩)
      rw [dioramaref15_turned.l0, if_neg (by omega), if_neg (by decide)]
  | succ m ih =>
    intro i s hi hs hn
    have hs' := hs.turn
    obtain ⟨h1, h2, h3, h4, h5, h6⟩ := hs
    refine Ev.step (fun k => ?_) (t_l1 s.1 s.2.1 ⟨h1, h2⟩ ⟨h3, h4⟩ c s.2.2 (q : Int) (i : Int) fl (s.2.1 : Int) (s.1 : Int) c h6 hn _ s.2.2.length 0 [] (by omega) rfl ?_)
    · rw [dioramaref15_turned.l0, if_pos (by omega), show (0 : Int) = ((0 : Nat) : Int) from rfl]
    · rw [w64_succ i (by omega)]
      exact ih (i + 1) (s.2.1, s.1, s.2.2.map (rot1 s.1 s.2.1)) (by omega) hs' (by simpa using hn)
theorem turned_is (a b c : Int) (l : List (List Int)) (q : Int) (fl : Bool) (r : Int × Int × Int × List (List Int)) (hl : l.length ≤ 8) (h : item_turned.f a b c l q fl = some r) : Ev fun k => dioramaref15_turned.f k a b c l q fl = some r := by
  unfold item_turned.f at h
  split at h
  case isFalse => cases h
  case isTrue hk =>
  obtain rfl := Option.some.inj h
  clear h
  obtain ⟨⟨ha1, ha2, hb1, hb2, hn1, hn2, hq1, hq2⟩, hall⟩ := hk
  have hs : okPic (a.toNat, b.toNat, l) := by
    refine ⟨?_, ?_, ?_, ?_, hn2, fun r hr => ?_⟩
    · show 1 ≤ a.toNat; omega
    · show a.toNat ≤ 1000; omega
    · show 1 ≤ b.toNat; omega
    · show b.toNat ≤ 1000; omega
    · simpa using List.all_eq_true.1 hall r hr
  have h0 := t_l0 c q.toNat (by omega) fl q.toNat 0 (a.toNat, b.toNat, l) (by omega) hs (by show l.length ≤ 900; omega)
  refine h0.mono (fun k hk => ?_)
  unfold dioramaref15_turned.f turnedF
  have e1 : ((q.toNat : Nat) : Int) = q := by omega
  have e2 : ((a.toNat : Nat) : Int) = a := by omega
  have e3 : ((b.toNat : Nat) : Int) = b := by omega
  rw [e1] at hk
  simp only [e2, e3] at hk
  exact hk
end Go.Proofs.YtphkionjjhhhlaaGreat.Q
end
section
namespace Go.Proofs.YtphkionjjhhhlaaGreat.Q
open Go.RowKit Go.Proofs.YtphkionjjhhhlaaGreatW.PrintWords Go.Proofs.YtphkionjjhhhlaaGreatW.PrintLast Go.Proofs.YtphkionjjhhhlaaGreatW.PrintMore
def dioramaref00_EqInts.l0 : Nat → List Int → List Int → Int → Option (Bool)
  | 0, _, _, _ => none
  | k + 1, x0, x1, x5 => if x5 < (x0.length : Int) then (if 0 ≤ x5 then (if x5 < (x1.length : Int) then (if (rd x0 x5) = (rd x1 x5) then (dioramaref00_EqInts.l0 k x0 x1 (wrap64 (x5 + 1))) else (some false)) else (none)) else (none)) else (some true)
def dioramaref00_EqInts.f (k : Nat) (l0 : List Int) (l1 : List Int) : Option (Bool) := if (l0.length : Int) = (l1.length : Int) then (dioramaref00_EqInts.l0 k l0 l1 0) else (some false)
set_option maxHeartbeats 8000000 in
set_option maxRecDepth 100000 in
theorem dioramaref00_EqInts.calls (k : Nat) (A0 : Option Addr) (c0 : Nat) (l0 : List Int) (A1 : Option Addr) (c1 : Nat) (l1 : List Int) (r : Bool) (w : World) (hr0 : Kd.C (Kd.int .i64) w A0 l0.length l0) (hc0 : l0.length ≤ c0) (hr1 : Kd.C (Kd.int .i64) w A1 l1.length l1) (hc1 : l1.length ≤ c1) (h : dioramaref00_EqInts.f k l0 l1 = some r) :
    Calls Tryz.prog 23 #[.slice A0 l0.length c0, .slice A1 l1.length c1] w fun e w' => e = .returned (.bool r) ∧ Drawn0 w w' := by
  have HR0 := Aside0.mk hr0
  have HC0 := Aside0.mk hc0
  clear hr0 hc0
  have HR1 := Aside0.mk hr1
  have HC1 := Aside0.mk hc1
  clear hr1 hc1
  have H : (if (l0.length : Int) = (l1.length : Int) then (dioramaref00_EqInts.l0 k l0 l1 0) else (some false)) = some r := h
  clear h
  by_cases c3 : (l0.length : Int) = (l1.length : Int)
  · rw [if_pos c3] at H
    have c3b0 : ((l0.length : Int) == (l1.length : Int)) = true := beq_iff_eq.mpr c3
    have c3b1 : ((l0.length : Int) != (l1.length : Int)) = false := bne_eq_false_iff_eq.mpr c3
    have c3b2 : (l0.length == l1.length) = true := by first | simpa using c3 | (simp at c3 ⊢; omega)
    clear c3
    have H' := Aside0.mk H
    clear H
    go_enter Tryz.func23, Tryz.ntmps23
    go_wp2
    repeat (go_quiet (fail); try go_wp2)
    go_loopg [5] k (fun kq v5 w' => ∃ (x5_1 : Int), v5 = .int .i64 x5_1 ∧ Aside0 (dioramaref00_EqInts.l0 kq l0 l1 x5_1 = some r) ∧ Aside0 (kq ≤ k) ∧ Drawn0 w w')
    case atStart => exact ⟨(0), (by first | rfl | (simp; done) | (simp [*]; done)), H', ⟨Nat.le_refl _⟩, by repeat (first | exact Drawn0.refl _ | apply Drawn0.step)⟩
    case round =>
      clear H'
      try clear c1
      try clear c2
      try clear p2
      try clear c3
      try clear c3b0
      try clear c3b1
      try clear c3b2
      obtain ⟨x5_1, rfl, HA, HK1, ⟨m1, rfl⟩⟩ := hrel
      cases gk with
      | zero => exact absurd HA.out (by simp [dioramaref00_EqInts.l0])
      | succ k1 =>
        have H := HA.out
        clear HA
        simp only [dioramaref00_EqInts.l0] at H
        by_cases c4 : x5_1 < (l0.length : Int)
        · rw [if_pos c4] at H
          have c4b0 : decide (x5_1 < (l0.length : Int)) = true := decide_eq_true c4
          clear c4
          by_cases c5 : 0 ≤ x5_1
          · rw [if_pos c5] at H
            have c5b0 : decide (0 ≤ x5_1) = true := decide_eq_true c5
            clear c5
            by_cases c6 : x5_1 < (l1.length : Int)
            · rw [if_pos c6] at H
              have c6b0 : decide (x5_1 < (l1.length : Int)) = true := decide_eq_true c6
              clear c6
              by_cases c7 : (rd l0 x5_1) = (rd l1 x5_1)
              · rw [if_pos c7] at H
                have c7b0 : ((rd l0 x5_1) == (rd l1 x5_1)) = true := beq_iff_eq.mpr c7
                have c7b1 : ((rd l0 x5_1) != (rd l1 x5_1)) = false := bne_eq_false_iff_eq.mpr c7
                clear c7
                have H' := Aside0.mk H
                clear H
                have p195 : 0 ≤ (x5_1 : Int) := of_decide_eq_true (by first | (with_reducible assumption) | assumption)
                have q195 : x5_1 < (l0.length : Int) := of_decide_eq_true (by first | (with_reducible assumption) | assumption)
                obtain ⟨ad195, e195, hx195_0⟩ := Kd.at_int HR0.out x5_1 p195 q195
                cases e195
                replace p195 := eq_true p195
                replace q195 := eq_true q195
                have p196 : 0 ≤ (x5_1 : Int) := of_decide_eq_true (by first | (with_reducible assumption) | assumption)
                have q196 : x5_1 < (l1.length : Int) := of_decide_eq_true (by first | (with_reducible assumption) | assumption)
                obtain ⟨ad196, e196, hx196_0⟩ := Kd.at_int HR1.out x5_1 p196 q196
                cases e196
                replace p196 := eq_true p196
                replace q196 := eq_true q196
                go_wp2
                repeat (go_quiet (fail); try go_wp2)
                go_roundg k1
                case measure => have := HK1.out; omega
                case rel => exact ⟨(wrap64 (x5_1 + 1)), (by first | rfl | (simp; done) | (simp [*]; done)), H', ⟨by have := HK1.out; omega⟩, by repeat (first | exact Drawn0.refl _ | apply Drawn0.step)⟩
              · rw [if_neg c7] at H
                have c7b0 : ((rd l0 x5_1) == (rd l1 x5_1)) = false := beq_eq_false_iff_ne.mpr c7
                have c7b1 : ((rd l0 x5_1) != (rd l1 x5_1)) = true := bne_iff_ne.mpr c7
                obtain rfl := Option.some.inj H
                have p195 : 0 ≤ (x5_1 : Int) := of_decide_eq_true (by first | (with_reducible assumption) | assumption)
                have q195 : x5_1 < (l0.length : Int) := of_decide_eq_true (by first | (with_reducible assumption) | assumption)
                obtain ⟨ad195, e195, hx195_0⟩ := Kd.at_int HR0.out x5_1 p195 q195
                cases e195
                replace p195 := eq_true p195
                replace q195 := eq_true q195
                have p196 : 0 ≤ (x5_1 : Int) := of_decide_eq_true (by first | (with_reducible assumption) | assumption)
                have q196 : x5_1 < (l1.length : Int) := of_decide_eq_true (by first | (with_reducible assumption) | assumption)
                obtain ⟨ad196, e196, hx196_0⟩ := Kd.at_int HR1.out x5_1 p196 q196
                cases e196
                replace p196 := eq_true p196
                replace q196 := eq_true q196
                go_wp2
                repeat (go_quiet (fail); try go_wp2)
                go_ret
                exact ⟨by first | rfl | (simp; done) | (simp [*]; done), by repeat (first | exact Drawn0.refl _ | apply Drawn0.step)⟩
            · rw [if_neg c6] at H
              exact absurd H (by simp)
          · rw [if_neg c5] at H
            exact absurd H (by simp)
        · rw [if_neg c4] at H
          have c4b0 : decide (x5_1 < (l0.length : Int)) = false := decide_eq_false c4
          clear c4
          obtain rfl := Option.some.inj H
          go_wp2
          repeat (go_quiet (fail); try go_wp2)
          go_ret
          exact ⟨by first | rfl | (simp; done) | (simp [*]; done), by repeat (first | exact Drawn0.refl _ | apply Drawn0.step)⟩
  · rw [if_neg c3] at H
    have c3b0 : ((l0.length : Int) == (l1.length : Int)) = false := beq_eq_false_iff_ne.mpr c3
    have c3b1 : ((l0.length : Int) != (l1.length : Int)) = true := bne_iff_ne.mpr c3
    have c3b2 : (l0.length == l1.length) = false := by first | simpa using c3 | (simp at c3 ⊢; omega)
    obtain rfl := Option.some.inj H
    go_enter Tryz.func23, Tryz.ntmps23
    go_wp2
    repeat (go_quiet (fail); try go_wp2)
    go_ret
    exact ⟨by first | rfl | (simp; done) | (simp [*]; done), by repeat (first | exact Drawn0.refl _ | apply Drawn0.step)⟩
end Go.Proofs.YtphkionjjhhhlaaGreat.Q
end
section
namespace Go.Proofs.YtphkionjjhhhlaaGreat.Q
open Go.RowKit Go.Proofs.YtphkionjjhhhlaaGreatW.PrintWords Go.Proofs.YtphkionjjhhhlaaGreatW.PrintLast Go.Proofs.YtphkionjjhhhlaaGreatW.PrintMore
def dioramaref00_EqRows.l0 : Nat → List (List Int) → List (List Int) → Int → Option (Bool)
  | 0, _, _, _ => none
  | k + 1, x0, x1, x5 => if x5 < (x0.length : Int) then (if 0 ≤ x5 then (if x5 < (x1.length : Int) then ((dioramaref00_EqInts.f k (rd_L1 x0 x5) (rd_L1 x1 x5)).bind fun t199 => (if t199 = true then (dioramaref00_EqRows.l0 k x0 x1 (wrap64 (x5 + 1))) else (some false))) else (none)) else (none)) else (some true)
def dioramaref00_EqRows.f (k : Nat) (l0 : List (List Int)) (l1 : List (List Int)) : Option (Bool) := if (l0.length : Int) = (l1.length : Int) then (dioramaref00_EqRows.l0 k l0 l1 0) else (some false)
set_option maxHeartbeats 8000000 in
set_option maxRecDepth 100000 in
theorem dioramaref00_EqRows.calls (k : Nat) (A0 : Option Addr) (c0 : Nat) (l0 : List (List Int)) (A1 : Option Addr) (c1 : Nat) (l1 : List (List Int)) (r : Bool) (w : World) (hr0 : Kd.C (Kd.slice 3 (Kd.int .i64)) w A0 l0.length l0) (hc0 : l0.length ≤ c0) (hr1 : Kd.C (Kd.slice 3 (Kd.int .i64)) w A1 l1.length l1) (hc1 : l1.length ≤ c1) (h : dioramaref00_EqRows.f k l0 l1 = some r) :
    Calls Tryz.prog 52 #[.slice A0 l0.length c0, .slice A1 l1.length c1] w fun e w' => e = .returned (.bool r) ∧ Drawn0 w w' := by
  have HR0 := Aside0.mk hr0
  have HC0 := Aside0.mk hc0
  clear hr0 hc0
  have HR1 := Aside0.mk hr1
  have HC1 := Aside0.mk hc1
  clear hr1 hc1
  have H : (if (l0.length : Int) = (l1.length : Int) then (dioramaref00_EqRows.l0 k l0 l1 0) else (some false)) = some r := h
  clear h
  by_cases c3 : (l0.length : Int) = (l1.length : Int)
  · rw [if_pos c3] at H
    have c3b0 : ((l0.length : Int) == (l1.length : Int)) = true := beq_iff_eq.mpr c3
    have c3b1 : ((l0.length : Int) != (l1.length : Int)) = false := bne_eq_false_iff_eq.mpr c3
    have c3b2 : (l0.length == l1.length) = true := by first | simpa using c3 | (simp at c3 ⊢; omega)
    clear c3
    have H' := Aside0.mk H
    clear H
    go_enter Tryz.func52, Tryz.ntmps52
    go_wp2
    repeat (go_quiet (fail); try go_wp2)
    go_loopg [5] k (fun kq v5 w' => ∃ (x5_1 : Int), v5 = .int .i64 x5_1 ∧ Aside0 (dioramaref00_EqRows.l0 kq l0 l1 x5_1 = some r) ∧ Aside0 (kq ≤ k) ∧ Drawn0 w w')
    case atStart => exact ⟨(0), (by first | rfl | (simp; done) | (simp [*]; done)), H', ⟨Nat.le_refl _⟩, by repeat (first | exact Drawn0.refl _ | apply Drawn0.step)⟩
    case round =>
      clear H'
      try clear c1
      try clear p2
      try clear c3
      try clear c3b0
      try clear c3b1
      try clear c3b2
      obtain ⟨x5_1, rfl, HA, HK1, ⟨m1, rfl⟩⟩ := hrel
      cases gk with
      | zero => exact absurd HA.out (by simp [dioramaref00_EqRows.l0])
      | succ k1 =>
        have H := HA.out
        clear HA
        simp only [dioramaref00_EqRows.l0] at H
        by_cases c4 : x5_1 < (l0.length : Int)
        · rw [if_pos c4] at H
          have c4b0 : decide (x5_1 < (l0.length : Int)) = true := decide_eq_true c4
          clear c4
          by_cases c5 : 0 ≤ x5_1
          · rw [if_pos c5] at H
            have c5b0 : decide (0 ≤ x5_1) = true := decide_eq_true c5
            clear c5
            by_cases c6 : x5_1 < (l1.length : Int)
            · rw [if_pos c6] at H
              have c6b0 : decide (x5_1 < (l1.length : Int)) = true := decide_eq_true c6
              clear c6
              replace H := Option.bind_eq_some_iff.mp H
              obtain ⟨t199, A70, H⟩ := H
              replace H : (if t199 = true then (dioramaref00_EqRows.l0 k1 l0 l1 (wrap64 (x5_1 + 1))) else (some false)) = some r := H
              have A7 := Aside0.mk A70
              clear A70
              by_cases c8 : t199 = true
              · subst c8
                have H1 : (dioramaref00_EqRows.l0 k1 l0 l1 (wrap64 (x5_1 + 1))) = some r := by rw [if_pos rfl] at H; exact H
                clear H
                have H := H1
                clear H1
                have H' := Aside0.mk H
                clear H
                have p197 : 0 ≤ (x5_1 : Int) := of_decide_eq_true (by first | (with_reducible assumption) | assumption)
                have q197 : x5_1 < (l0.length : Int) := of_decide_eq_true (by first | (with_reducible assumption) | assumption)
                obtain ⟨ad197, A197_0, c197_0, e197, hx197_0, hl197_0, hi197_0⟩ := at_L1 HR0.out x5_1 p197 q197
                cases e197
                have HR197_0 := Aside0.mk hi197_0
                have HC197_0 := Aside0.mk hl197_0
                clear hi197_0 hl197_0
                replace p197 := eq_true p197
                replace q197 := eq_true q197
                have p198 : 0 ≤ (x5_1 : Int) := of_decide_eq_true (by first | (with_reducible assumption) | assumption)
                have q198 : x5_1 < (l1.length : Int) := of_decide_eq_true (by first | (with_reducible assumption) | assumption)
                obtain ⟨ad198, A198_0, c198_0, e198, hx198_0, hl198_0, hi198_0⟩ := at_L1 HR1.out x5_1 p198 q198
                cases e198
                have HR198_0 := Aside0.mk hi198_0
                have HC198_0 := Aside0.mk hl198_0
                clear hi198_0 hl198_0
                replace p198 := eq_true p198
                replace q198 := eq_true q198
                go_wp2_with (first | (go_at_call 23; (with_reducible refine (dioramaref00_EqInts.calls k1 _ _ (rd_L1 l0 x5_1) _ _ (rd_L1 l1 x5_1) true _ ?side1 ?side2 ?side3 ?side4 A7.out).mono ?_); (case side1 => repeat (first | exact HR197_0.out | (with_reducible refine Kd.C_alloc ?_ _) | (with_reducible refine Kd.C_drewN ?_ _) | (with_reducible refine Kd.C_drew ?_))); (case side2 => exact HC197_0.out); (case side3 => repeat (first | exact HR198_0.out | (with_reducible refine Kd.C_alloc ?_ _) | (with_reducible refine Kd.C_drewN ?_ _) | (with_reducible refine Kd.C_drew ?_))); (case side4 => exact HC198_0.out); rintro e w' ⟨rfl, ⟨nd, rfl⟩⟩; (try first | exact ⟨rfl, _, World.drewN_drewN _ _ _⟩ | exact ⟨rfl, _, Eq.trans (World.drewN_drewN _ _ _) (congrArg (World.drewN _) (Nat.add_assoc _ _ _))⟩)))
                repeat (go_quiet (first | (go_at_call 23; (with_reducible refine (dioramaref00_EqInts.calls k1 _ _ (rd_L1 l0 x5_1) _ _ (rd_L1 l1 x5_1) true _ ?side1 ?side2 ?side3 ?side4 A7.out).mono ?_); (case side1 => repeat (first | exact HR197_0.out | (with_reducible refine Kd.C_alloc ?_ _) | (with_reducible refine Kd.C_drewN ?_ _) | (with_reducible refine Kd.C_drew ?_))); (case side2 => exact HC197_0.out); (case side3 => repeat (first | exact HR198_0.out | (with_reducible refine Kd.C_alloc ?_ _) | (with_reducible refine Kd.C_drewN ?_ _) | (with_reducible refine Kd.C_drew ?_))); (case side4 => exact HC198_0.out); rintro e w' ⟨rfl, ⟨nd, rfl⟩⟩; (try first | exact ⟨rfl, _, World.drewN_drewN _ _ _⟩ | exact ⟨rfl, _, Eq.trans (World.drewN_drewN _ _ _) (congrArg (World.drewN _) (Nat.add_assoc _ _ _))⟩))); try go_wp2_with (first | (go_at_call 23; (with_reducible refine (dioramaref00_EqInts.calls k1 _ _ (rd_L1 l0 x5_1) _ _ (rd_L1 l1 x5_1) true _ ?side1 ?side2 ?side3 ?side4 A7.out).mono ?_); (case side1 => repeat (first | exact HR197_0.out | (with_reducible refine Kd.C_alloc ?_ _) | (with_reducible refine Kd.C_drewN ?_ _) | (with_reducible refine Kd.C_drew ?_))); (case side2 => exact HC197_0.out); (case side3 => repeat (first | exact HR198_0.out | (with_reducible refine Kd.C_alloc ?_ _) | (with_reducible refine Kd.C_drewN ?_ _) | (with_reducible refine Kd.C_drew ?_))); (case side4 => exact HC198_0.out); rintro e w' ⟨rfl, ⟨nd, rfl⟩⟩; (try first | exact ⟨rfl, _, World.drewN_drewN _ _ _⟩ | exact ⟨rfl, _, Eq.trans (World.drewN_drewN _ _ _) (congrArg (World.drewN _) (Nat.add_assoc _ _ _))⟩))))
                go_roundg k1
                case measure => have := HK1.out; omega
                case rel => exact ⟨(wrap64 (x5_1 + 1)), (by first | rfl | (simp; done) | (simp [*]; done)), H', ⟨by have := HK1.out; omega⟩, by repeat (first | exact Drawn0.refl _ | apply Drawn0.step)⟩
              · replace c8 := Bool.eq_false_iff.mpr c8
                subst c8
                have H1 : (some false) = some r := by rw [if_neg (show ¬ (false = true) by decide)] at H; exact H
                clear H
                have H := H1
                clear H1
                obtain rfl := Option.some.inj H
                have p197 : 0 ≤ (x5_1 : Int) := of_decide_eq_true (by first | (with_reducible assumption) | assumption)
                have q197 : x5_1 < (l0.length : Int) := of_decide_eq_true (by first | (with_reducible assumption) | assumption)
                obtain ⟨ad197, A197_0, c197_0, e197, hx197_0, hl197_0, hi197_0⟩ := at_L1 HR0.out x5_1 p197 q197
                cases e197
                have HR197_0 := Aside0.mk hi197_0
                have HC197_0 := Aside0.mk hl197_0
                clear hi197_0 hl197_0
                replace p197 := eq_true p197
                replace q197 := eq_true q197
                have p198 : 0 ≤ (x5_1 : Int) := of_decide_eq_true (by first | (with_reducible assumption) | assumption)
                have q198 : x5_1 < (l1.length : Int) := of_decide_eq_true (by first | (with_reducible assumption) | assumption)
                obtain ⟨ad198, A198_0, c198_0, e198, hx198_0, hl198_0, hi198_0⟩ := at_L1 HR1.out x5_1 p198 q198
                cases e198
                have HR198_0 := Aside0.mk hi198_0
                have HC198_0 := Aside0.mk hl198_0
                clear hi198_0 hl198_0
                replace p198 := eq_true p198
                replace q198 := eq_true q198
                go_wp2_with (first | (go_at_call 23; (with_reducible refine (dioramaref00_EqInts.calls k1 _ _ (rd_L1 l0 x5_1) _ _ (rd_L1 l1 x5_1) false _ ?side1 ?side2 ?side3 ?side4 A7.out).mono ?_); (case side1 => repeat (first | exact HR197_0.out | (with_reducible refine Kd.C_alloc ?_ _) | (with_reducible refine Kd.C_drewN ?_ _) | (with_reducible refine Kd.C_drew ?_))); (case side2 => exact HC197_0.out); (case side3 => repeat (first | exact HR198_0.out | (with_reducible refine Kd.C_alloc ?_ _) | (with_reducible refine Kd.C_drewN ?_ _) | (with_reducible refine Kd.C_drew ?_))); (case side4 => exact HC198_0.out); rintro e w' ⟨rfl, ⟨nd, rfl⟩⟩; (try first | exact ⟨rfl, _, World.drewN_drewN _ _ _⟩ | exact ⟨rfl, _, Eq.trans (World.drewN_drewN _ _ _) (congrArg (World.drewN _) (Nat.add_assoc _ _ _))⟩)))
                repeat (go_quiet (first | (go_at_call 23; (with_reducible refine (dioramaref00_EqInts.calls k1 _ _ (rd_L1 l0 x5_1) _ _ (rd_L1 l1 x5_1) false _ ?side1 ?side2 ?side3 ?side4 A7.out).mono ?_); (case side1 => repeat (first | exact HR197_0.out | (with_reducible refine Kd.C_alloc ?_ _) | (with_reducible refine Kd.C_drewN ?_ _) | (with_reducible refine Kd.C_drew ?_))); (case side2 => exact HC197_0.out); (case side3 => repeat (first | exact HR198_0.out | (with_reducible refine Kd.C_alloc ?_ _) | (with_reducible refine Kd.C_drewN ?_ _) | (with_reducible refine Kd.C_drew ?_))); (case side4 => exact HC198_0.out); rintro e w' ⟨rfl, ⟨nd, rfl⟩⟩; (try first | exact ⟨rfl, _, World.drewN_drewN _ _ _⟩ | exact ⟨rfl, _, Eq.trans (World.drewN_drewN _ _ _) (congrArg (World.drewN _) (Nat.add_assoc _ _ _))⟩))); try go_wp2_with (first | (go_at_call 23; (with_reducible refine (dioramaref00_EqInts.calls k1 _ _ (rd_L1 l0 x5_1) _ _ (rd_L1 l1 x5_1) false _ ?side1 ?side2 ?side3 ?side4 A7.out).mono ?_); (case side1 => repeat (first | exact HR197_0.out | (with_reducible refine Kd.C_alloc ?_ _) | (with_reducible refine Kd.C_drewN ?_ _) | (with_reducible refine Kd.C_drew ?_))); (case side2 => exact HC197_0.out); (case side3 => repeat (first | exact HR198_0.out | (with_reducible refine Kd.C_alloc ?_ _) | (with_reducible refine Kd.C_drewN ?_ _) | (with_reducible refine Kd.C_drew ?_))); (case side4 => exact HC198_0.out); rintro e w' ⟨rfl, ⟨nd, rfl⟩⟩; (try first | exact ⟨rfl, _, World.drewN_drewN _ _ _⟩ | exact ⟨rfl, _, Eq.trans (World.drewN_drewN _ _ _) (congrArg (World.drewN _) (Nat.add_assoc _ _ _))⟩))))
                go_ret
                exact ⟨by first | rfl | (simp; done) | (simp [*]; done), by repeat (first | exact Drawn0.refl _ | apply Drawn0.step)⟩
            · rw [if_neg c6] at H
              exact absurd H (by simp)
          · rw [if_neg c5] at H
            exact absurd H (by simp)
        · rw [if_neg c4] at H
          have c4b0 : decide (x5_1 < (l0.length : Int)) = false := decide_eq_false c4
          clear c4
          obtain rfl := Option.some.inj H
          go_wp2
          repeat (go_quiet (fail); try go_wp2)
          go_ret
          exact ⟨by first | rfl | (simp; done) | (simp [*]; done), by repeat (first | exact Drawn0.refl _ | apply Drawn0.step)⟩
  · rw [if_neg c3] at H
    have c3b0 : ((l0.length : Int) == (l1.length : Int)) = false := beq_eq_false_iff_ne.mpr c3
    have c3b1 : ((l0.length : Int) != (l1.length : Int)) = true := bne_iff_ne.mpr c3
    have c3b2 : (l0.length == l1.length) = false := by first | simpa using c3 | (simp at c3 ⊢; omega)
    obtain rfl := Option.some.inj H
    go_enter Tryz.func52, Tryz.ntmps52
    go_wp2
    repeat (go_quiet (fail); try go_wp2)
    go_ret
    exact ⟨by first | rfl | (simp; done) | (simp [*]; done), by repeat (first | exact Drawn0.refl _ | apply Drawn0.step)⟩
end Go.Proofs.YtphkionjjhhhlaaGreat.Q
end
