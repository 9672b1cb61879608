/- Lemmas and walks of this proof (part 5). -/
import Derived.Test.YtphkionjjhhhlaaGreatCParts4
set_option linter.unusedVariables false
set_option linter.unusedSimpArgs false
section
namespace Go.Proofs.YtphkionjjhhhlaaGreat.Q
open Go.RowKit Go.Proofs.YtphkionjjhhhlaaGreatW.PrintWords Go.Proofs.YtphkionjjhhhlaaGreatW.PrintLast Go.Proofs.YtphkionjjhhhlaaGreatW.PrintMore
mutual
def l15_part.l0 : Nat → Int → Int → Int → Int → Int → Int → Int → Int → List (List Int) → Int → Int → Int → List (List Int) → Option (Int × Int × Int × (List (List Int)))
 | 0, _, _, _, _, _, _, _, _, _, _, _, _, _ => none
 | k + 1, x1, x2, x3, x4, x12, x593000, x593001, x593002, x593003, x595000, x595001, x595002, x595003 => if x12 < (x593003.length : Int) then (if 0 ≤ (wrap64 (x3 * x4)) then (if (wrap64 (x3 * x4) : Int).toNat ≤ 35184372088832 then (l15_part.l1 k x1 x2 x3 x4 x12 (List.replicate (wrap64 (x3 * x4) : Int).toNat 0) 0 x593000 x593001 x593002 x593003 x595000 x595001 x595002 x595003) else (none)) else (none)) else (some (x595000, x595001, x595002, x595003))
def l15_part.l1 : Nat → Int → Int → Int → Int → Int → List Int → Int → Int → Int → Int → List (List Int) → Int → Int → Int → List (List Int) → Option (Int × Int × Int × (List (List Int)))
 | 0, _, _, _, _, _, _, _, _, _, _, _, _, _, _, _ => none
 | k + 1, x1, x2, x3, x4, x12, x13, x14, x593000, x593001, x593002, x593003, x595000, x595001, x595002, x595003 => if x14 < (x13.length : Int) then (if x3 = 0 then (none) else (if (wrap64 (x1 + (Int.tmod x14 x3))) < x593000 then (if (wrap64 (x2 + (wrap64 (Int.tdiv x14 x3)))) < x593001 then (if 0 ≤ x12 then (if x12 < (x593003.length : Int) then (if 0 ≤ (wrap64 ((wrap64 ((wrap64 (x2 + (wrap64 (Int.tdiv x14 x3)))) * x593000)) + (wrap64 (x1 + (Int.tmod x14 x3))))) then (if (wrap64 ((wrap64 ((wrap64 (x2 + (wrap64 (Int.tdiv x14 x3)))) * x593000)) + (wrap64 (x1 + (Int.tmod x14 x3))))) < ((rd_L1 x593003 x12).length : Int) then (if 0 ≤ x14 then (l15_part.l1 k x1 x2 x3 x4 x12 (x13.set (x14 : Int).toNat (rd (rd_L1 x593003 x12) (wrap64 ((wrap64 ((wrap64 (x2 + (wrap64 (Int.tdiv x14 x3)))) * x593000)) + (wrap64 (x1 + (Int.tmod x14 x3))))))) (wrap64 (x14 + 1)) x593000 x593001 x593002 x593003 x595000 x595001 x595002 x595003) else (none)) else (none)) else (none)) else (none)) else (none)) else (l15_part.l1 k x1 x2 x3 x4 x12 x13 (wrap64 (x14 + 1)) x593000 x593001 x593002 x593003 x595000 x595001 x595002 x595003)) else (l15_part.l1 k x1 x2 x3 x4 x12 x13 (wrap64 (x14 + 1)) x593000 x593001 x593002 x593003 x595000 x595001 x595002 x595003))) else (if x595003.length < 5864062014805 then (l15_part.l0 k x1 x2 x3 x4 (wrap64 (x12 + 1)) x593000 x593001 x593002 x593003 x595000 x595001 x595002 (x595003 ++ [x13])) else (none))
end
def l15_part.f (k : Nat) (a0_0 : Int) (a0_1 : Int) (a0_2 : Int) (l0_3 : List (List Int)) (a1 : Int) (a2 : Int) (a3 : Int) (a4 : Int) : Option (Int × Int × Int × (List (List Int))) := l15_part.l0 k a1 a2 a3 a4 0 a0_0 a0_1 a0_2 l0_3 a3 a4 a0_2 ([] : List (List Int))
def l15_part.T9 : Bool × List (List Nat × List Nat) := (true, [([], []), ([], []), ([], []), ([1, 2], [1, 2]), ([0, 3], [0, 3]), ([], []), ([], []), ([], []), ([6, 7], [6, 7]), ([5, 8], [5, 8]), ([4, 0, 1, 2, 3, 4], [4]), ([9, 10, 0, 1, 2, 3, 4, 5, 6, 7, 8, 9, 10], [9])])
def l15_part.B9 : List Nat := [0, 0, 0, 6, 15, 0, 0, 0, 192, 480, 31, 2047]
theorem l15_part.tab9 : rtab .any (opsOf Tryz.f31 9) = l15_part.T9 := by kernel_rfl
theorem l15_part.bits9 : waitsOk l15_part.T9.2 l15_part.B9 = true := by kernel_rfl
def l15_part.T11 : Bool × List (List Nat × List Nat) := (true, [([], []), ([], []), ([], []), ([2], [2]), ([], []), ([3, 4], [3, 4]), ([5], [5]), ([], []), ([], []), ([8], [8]), ([7, 9], [7, 9]), ([], []), ([10, 11], [10, 11]), ([6, 12], [6, 12]), ([13], [13]), ([0, 1, 0, 1, 2, 3, 4, 5, 6, 7, 8, 9, 10, 11, 12, 13, 14], [0, 1]), ([15, 14, 0, 1, 2, 3, 4, 5, 6, 7, 8, 9, 10, 11, 12, 13, 14], [14, 15])])
def l15_part.B11 : List Nat := [0, 0, 0, 4, 0, 28, 60, 0, 0, 256, 896, 0, 3968, 8188, 16380, 32767, 65535]
theorem l15_part.tab11 : rtab .any (opsOf Tryz.f31 11) = l15_part.T11 := by kernel_rfl
theorem l15_part.bits11 : waitsOk l15_part.T11.2 l15_part.B11 = true := by kernel_rfl
set_option maxHeartbeats 8000000 in
set_option maxRecDepth 100000 in
theorem l15_part.calls (k : Nat) (a0_0 : Int) (a0_1 : Int) (a0_2 : Int) (A0_3 : Option Addr) (c0_3 : Nat) (l0_3 : List (List Int)) (a1 : Int) (a2 : Int) (a3 : Int) (a4 : Int) (r1 : Int) (r2 : Int) (r3 : Int) (r4 : List (List Int)) (w : World) (hr0_3 : Kd.C (Kd.slice 3 (Kd.int .i64)) w A0_3 l0_3.length l0_3) (hc0_3 : l0_3.length ≤ c0_3) (h : l15_part.f k a0_0 a0_1 a0_2 l0_3 a1 a2 a3 a4 = some (r1, r2, r3, r4)) :
  Calls Tryz.prog 31 #[.agg #[.int .i64 a0_0, .int .i64 a0_1, .int .i64 a0_2, .slice A0_3 l0_3.length c0_3], .int .i64 a1, .int .i64 a2, .int .i64 a3, .int .i64 a4] w fun e w' => ∃ v3_ : Value, e = .returned (.agg #[.int .i64 r1, .int .i64 r2, .int .i64 r3, v3_]) ∧ Kd.S (Kd.slice 3 (Kd.int .i64)) 39 w' w.heap.size (fun _ => True) v3_ r4 ∧ Below w.heap.size w w' := by
 have hu24 := Tryz.underlying24
 have HR0_3 := As0.mk hr0_3
 have HC0_3 := As0.mk hc0_3
 clear hr0_3 hc0_3
 have HB := As0.mk (Below.refl w.heap.size w)
 have H : (l15_part.l0 k a1 a2 a3 a4 0 a0_0 a0_1 a0_2 l0_3 a3 a4 a0_2 ([] : List (List Int))) = some (r1, r2, r3, r4) := h
 clear h
 have H' := As0.mk H
 clear H
 go_enter Tryz.func31, Tryz.ntmps31
 go_wp2_with (first | ((with_reducible refine gdt (N := 5) rfl ?_); refine bxe ?hg (N := 5) ?hd (cs := #[.int .i64 a0_0, .int .i64 a0_1, .int .i64 a0_2, .slice A0_3 l0_3.length c0_3]) (t := 24) ?hr ?_; (case hd => rfl); (case hg => rfl); (case hr => first | (go_simp; done) | (go_simp; rfl)); intro gb592 hg w6 hbox hb; have n0_ := As0.mk (bwp (by repeat (first | (with_reducible first | exact HB.out | apply bwa | apply pwN | apply bwd) | exact HB.out)) hb); have n1_ := As0.mk (hbox); have n2_ := As0.mk ((by rw [hg]; exact (bwz (by repeat (first | (with_reducible first | exact HB.out | apply bwa | apply pwN | apply bwd) | exact HB.out))) : w.heap.size ≤ gb592)); have n3_ := As0.mk ((by rw [hg]; exact (bwz (by repeat (first | (with_reducible first | exact HB.out | apply bwa | apply pwN | apply bwd) | exact HB.out))) : w.heap.size ≤ gb592)); clear HB; have HB := n0_; have BK592 := n1_; have GW592 := n2_; have GE592 := n3_; clear n0_ n1_ n2_ n3_; clear hb hbox hg) | ((with_reducible refine gdt (N := 10) rfl ?_); refine bxe ?hg (N := 10) ?hd (cs := #[.int .i64 0, .int .i64 0, .int .i64 0, .slice none 0 0]) (t := 24) ?hr ?_; (case hd => rfl); (case hg => rfl); (case hr => first | (go_simp; done) | (go_simp; rfl)); intro gb593 hg w7 hbox hb; have n0_ := As0.mk (bkb (g := gb592) (o := .cells #[.int .i64 a0_0, .int .i64 a0_1, .int .i64 a0_2, .slice A0_3 l0_3.length c0_3] 24 (0, 0)) (by (with_reducible repeat (first | refine bkN ?_ _ | refine bkd ?_ | refine bka ?_ _)); exact BK592.out) hb); have n1_ := As0.mk (bwp (by repeat (first | (with_reducible first | exact HB.out | apply bwa | apply pwN | apply bwd | refine bws ?_ GE592.out) | exact HB.out)) hb); have n2_ := As0.mk (hbox); have n3_ := As0.mk ((by rw [hg]; exact (bwz (by repeat (first | (with_reducible first | exact HB.out | apply bwa | apply pwN | apply bwd | refine bws ?_ GE592.out) | exact HB.out))) : w.heap.size ≤ gb593)); have n4_ := As0.mk ((by rw [hg]; exact (bwz (by repeat (first | (with_reducible first | exact HB.out | apply bwa | apply pwN | apply bwd | refine bws ?_ GE592.out) | exact HB.out))) : w.heap.size ≤ gb593)); have n5_ := As0.mk ((by rw [hg]; exact Nat.ne_of_lt (blk_lt (g := gb592) (o := .cells #[.int .i64 a0_0, .int .i64 a0_1, .int .i64 a0_2, .slice A0_3 l0_3.length c0_3] 24 (0, 0)) (by (with_reducible repeat (first | refine bkN ?_ _ | refine bkd ?_ | refine bka ?_ _)); exact BK592.out)) : gb592 ≠ gb593)); have n6_ := As0.mk ((by rw [hg]; exact Nat.ne_of_gt (blk_lt (g := gb592) (o := .cells #[.int .i64 a0_0, .int .i64 a0_1, .int .i64 a0_2, .slice A0_3 l0_3.length c0_3] 24 (0, 0)) (by (with_reducible repeat (first | refine bkN ?_ _ | refine bkd ?_ | refine bka ?_ _)); exact BK592.out)) : gb593 ≠ gb592)); clear BK592; clear HB; have BK592 := n0_; have HB := n1_; have BK593 := n2_; have GW593 := n3_; have GE593 := n4_; have NB592_593 := n5_; have NB593_592 := n6_; clear n0_ n1_ n2_ n3_ n4_ n5_ n6_; clear hb hbox hg; have hnb8 := NB592_593.out; have hnc8 := NB593_592.out; have hcz9_0 : w7.cell? ⟨gb592, 0, none⟩ = some (.int .i64 a0_0) := (bkc BK592.out 0).trans rfl; have hcz9_1 : w7.cell? ⟨gb592, 1, none⟩ = some (.int .i64 a0_1) := (bkc BK592.out 1).trans rfl; have hcz9_2 : w7.cell? ⟨gb592, 2, none⟩ = some (.int .i64 a0_2) := (bkc BK592.out 2).trans rfl; have hcz9_3 : w7.cell? ⟨gb592, 3, none⟩ = some (.slice A0_3 l0_3.length c0_3) := (bkc BK592.out 3).trans rfl; have hfz9_0 := bkz BK592.out 0; have hfz9_1 := bkz BK592.out 1; have hfz9_2 := bkz BK592.out 2; have hfz9_3 := bkz BK592.out 3) | ((with_reducible refine gdt (N := 11) rfl ?_); refine bxe ?hg (N := 11) ?hd (cs := #[.int .i64 0, .int .i64 0, .int .i64 0, .slice none 0 0]) (t := 24) ?hr ?_; (case hd => rfl); (case hg => rfl); (case hr => first | (go_simp; done) | (go_simp; rfl)); intro gb594 hg w10 hbox hb; have n0_ := As0.mk (bkb (g := gb592) (o := .cells #[.int .i64 a0_0, .int .i64 a0_1, .int .i64 a0_2, .slice A0_3 l0_3.length c0_3] 24 (0, 0)) (by (with_reducible repeat (first | refine bkN ?_ _ | refine bkd ?_ | refine bka ?_ _)); exact BK592.out) hb); have n1_ := As0.mk (bkb (g := gb593) (o := .cells #[.int .i64 0, .int .i64 0, .int .i64 0, .slice none 0 0] 24 (0, 0)) (by (with_reducible repeat (first | refine bkN ?_ _ | refine bkd ?_ | refine bka ?_ _)); exact BK593.out) hb); have n2_ := As0.mk (bwp (by repeat (first | (with_reducible first | exact HB.out | apply bwa | apply pwN | apply bwd | refine bws ?_ GE592.out | refine bws ?_ GE593.out) | exact HB.out)) hb); have n3_ := As0.mk (hbox); have n4_ := As0.mk ((by rw [hg]; exact (bwz (by repeat (first | (with_reducible first | exact HB.out | apply bwa | apply pwN | apply bwd | refine bws ?_ GE592.out | refine bws ?_ GE593.out) | exact HB.out))) : w.heap.size ≤ gb594)); have n5_ := As0.mk ((by rw [hg]; exact (bwz (by repeat (first | (with_reducible first | exact HB.out | apply bwa | apply pwN | apply bwd | refine bws ?_ GE592.out | refine bws ?_ GE593.out) | exact HB.out))) : w.heap.size ≤ gb594)); have n6_ := As0.mk ((by rw [hg]; exact Nat.ne_of_lt (blk_lt (g := gb592) (o := .cells #[.int .i64 a0_0, .int .i64 a0_1, .int .i64 a0_2, .slice A0_3 l0_3.length c0_3] 24 (0, 0)) (by (with_reducible repeat (first | refine bkN ?_ _ | refine bkd ?_ | refine bka ?_ _)); exact BK592.out)) : gb592 ≠ gb594)); have n7_ := As0.mk ((by rw [hg]; exact Nat.ne_of_gt (blk_lt (g := gb592) (o := .cells #[.int .i64 a0_0, .int .i64 a0_1, .int .i64 a0_2, .slice A0_3 l0_3.length c0_3] 24 (0, 0)) (by (with_reducible repeat (first | refine bkN ?_ _ | refine bkd ?_ | refine bka ?_ _)); exact BK592.out)) : gb594 ≠ gb592)); have n8_ := As0.mk ((by rw [hg]; exact Nat.ne_of_lt (blk_lt (g := gb593) (o := .cells #[.int .i64 0, .int .i64 0, .int .i64 0, .slice none 0 0] 24 (0, 0)) (by (with_reducible repeat (first | refine bkN ?_ _ | refine bkd ?_ | refine bka ?_ _)); exact BK593.out)) : gb593 ≠ gb594)); have n9_ := As0.mk ((by rw [hg]; exact Nat.ne_of_gt (blk_lt (g := gb593) (o := .cells #[.int .i64 0, .int .i64 0, .int .i64 0, .slice none 0 0] 24 (0, 0)) (by (with_reducible repeat (first | refine bkN ?_ _ | refine bkd ?_ | refine bka ?_ _)); exact BK593.out)) : gb594 ≠ gb593)); clear BK592; clear BK593; clear HB; have BK592 := n0_; have BK593 := n1_; have HB := n2_; have BK594 := n3_; have GW594 := n4_; have GE594 := n5_; have NB592_594 := n6_; have NB594_592 := n7_; have NB593_594 := n8_; have NB594_593 := n9_; clear n0_ n1_ n2_ n3_ n4_ n5_ n6_ n7_ n8_ n9_; clear hb hbox hg; have hnb11 := NB594_592.out; have hnc11 := NB592_594.out; have hnb12 := NB594_593.out; have hnc12 := NB593_594.out; have hcz13_0 : w10.cell? ⟨gb594, 0, none⟩ = some (.int .i64 0) := (bkc BK594.out 0).trans rfl; have hcz13_1 : w10.cell? ⟨gb594, 1, none⟩ = some (.int .i64 0) := (bkc BK594.out 1).trans rfl; have hcz13_2 : w10.cell? ⟨gb594, 2, none⟩ = some (.int .i64 0) := (bkc BK594.out 2).trans rfl; have hcz13_3 : w10.cell? ⟨gb594, 3, none⟩ = some (.slice none 0 0) := (bkc BK594.out 3).trans rfl; have hfz13_0 := bkz BK594.out 0; have hfz13_1 := bkz BK594.out 1; have hfz13_2 := bkz BK594.out 2; have hfz13_3 := bkz BK594.out 3))
 go_loopg [12] k (fun kq v12 w' => ∃ (x12_1 : Int) (x595003_1 : List (List Int)) (u595003 : Value), v12 = .int .i64 x12_1 ∧ As0 (l15_part.l0 kq a1 a2 a3 a4 x12_1 a0_0 a0_1 a0_2 l0_3 a3 a4 a0_2 x595003_1 = some (r1, r2, r3, r4)) ∧ As0 (kq ≤ k) ∧ As0 (Kd.S (Kd.slice 3 (Kd.int .i64)) 39 w' w.heap.size (fun _ => True) u595003 x595003_1) ∧ As0 (w'.heap[gb592]? = some (.cells #[.int .i64 a0_0, .int .i64 a0_1, .int .i64 a0_2, (.slice A0_3 l0_3.length c0_3)] 24 (0, 0))) ∧ As0 (w'.heap[gb593]? = some (.cells #[.int .i64 0, .int .i64 0, .int .i64 0, (.slice none 0 0)] 24 (0, 0))) ∧ As0 (w'.heap[gb594]? = some (.cells #[.int .i64 a3, .int .i64 a4, .int .i64 a0_2, u595003] 24 (0, 0))) ∧ As0 (Below w.heap.size w w'))
 case atStart => exact ⟨(0), (([] : List (List Int))), (.slice none 0 0), (by first | rfl | (simp; done) | (simp [*]; done)), H', ⟨Nat.le_refl _⟩, ⟨by first | exact Kd.S_nil _ _ _ _ _ | exact Kd.N_nil _ _ _ _ _ | exact Kd.V_nil _ _ _ _ _ | exact Kd.Q_nil _ _ _ _ _ | exact Kd.R_nil _ _ _ _ _⟩, ⟨by (with_reducible repeat (first | refine bkN ?_ _ | refine bkd ?_ | refine bka ?_ _)); refine bkf ?_ NB592_594.out _; (with_reducible repeat (first | refine bkN ?_ _ | refine bkd ?_ | refine bka ?_ _)); refine bkf ?_ NB592_594.out _; (with_reducible repeat (first | refine bkN ?_ _ | refine bkd ?_ | refine bka ?_ _)); refine bkf ?_ NB592_594.out _; (with_reducible repeat (first | refine bkN ?_ _ | refine bkd ?_ | refine bka ?_ _)); refine bkf ?_ NB592_594.out _; (with_reducible repeat (first | refine bkN ?_ _ | refine bkd ?_ | refine bka ?_ _)); exact BK592.out⟩, ⟨by (with_reducible repeat (first | refine bkN ?_ _ | refine bkd ?_ | refine bka ?_ _)); refine bkf ?_ NB593_594.out _; (with_reducible repeat (first | refine bkN ?_ _ | refine bkd ?_ | refine bka ?_ _)); refine bkf ?_ NB593_594.out _; (with_reducible repeat (first | refine bkN ?_ _ | refine bkd ?_ | refine bka ?_ _)); refine bkf ?_ NB593_594.out _; (with_reducible repeat (first | refine bkN ?_ _ | refine bkd ?_ | refine bka ?_ _)); refine bkf ?_ NB593_594.out _; (with_reducible repeat (first | refine bkN ?_ _ | refine bkd ?_ | refine bka ?_ _)); exact BK593.out⟩, ⟨by (with_reducible repeat (first | refine bkN ?_ _ | refine bkd ?_ | refine bka ?_ _)); refine blk_put (cs := #[.int .i64 a3, .int .i64 a4, .int .i64 a0_2, .slice none 0 0]) ?_ 3 _ rfl; (with_reducible repeat (first | refine bkN ?_ _ | refine bkd ?_ | refine bka ?_ _)); refine blk_put (cs := #[.int .i64 a3, .int .i64 a4, .int .i64 0, .slice none 0 0]) ?_ 2 _ rfl; (with_reducible repeat (first | refine bkN ?_ _ | refine bkd ?_ | refine bka ?_ _)); refine blk_put (cs := #[.int .i64 a3, .int .i64 0, .int .i64 0, .slice none 0 0]) ?_ 1 _ rfl; (with_reducible repeat (first | refine bkN ?_ _ | refine bkd ?_ | refine bka ?_ _)); refine blk_put (cs := #[.int .i64 0, .int .i64 0, .int .i64 0, .slice none 0 0]) ?_ 0 _ rfl; (with_reducible repeat (first | refine bkN ?_ _ | refine bkd ?_ | refine bka ?_ _)); exact BK594.out⟩, ⟨by repeat (first | (with_reducible first | exact HB.out | apply bwa | apply pwN | apply bwd | refine bws ?_ GE592.out | refine bws ?_ GE593.out | refine bws ?_ GE594.out) | exact HB.out)⟩⟩
 case round =>
  clear H'
  try clear c1
  try clear p2
  try clear c3
  try clear c8
  try clear c11
  try clear c12
  try clear hcz13_0
  try clear hcz13_1
  try clear hcz13_2
  try clear hcz13_3
  try clear hcz9_0
  try clear hcz9_1
  try clear hcz9_2
  try clear hcz9_3
  try clear hfz13_0
  try clear hfz13_1
  try clear hfz13_2
  try clear hfz13_3
  try clear hfz9_0
  try clear hfz9_1
  try clear hfz9_2
  try clear hfz9_3
  obtain ⟨x12_1, x595003_1, u595003, rfl, HA, HK1, HO_595003, BK592, BK593, BK594, HB⟩ := hrel
  cases gk with
  | zero => exact absurd HA.out (by simp [l15_part.l0])
  | succ k1 =>
   have H := HA.out
   clear HA
   simp only [l15_part.l0] at H
   by_cases c14 : x12_1 < (l0_3.length : Int)
   ·rw [if_pos c14] at H
    have c14b0 : decide (x12_1 < (l0_3.length : Int)) = true := decide_eq_true c14
    clear c14
    obtain ⟨ji15, hji15⟩ : ∃ j_ : Int, (wrap64 (a3 * a4)) = j_ := ⟨_, rfl⟩
    replace H : (if 0 ≤ (ji15) then (if (ji15 : Int).toNat ≤ 35184372088832 then (l15_part.l1 k1 a1 a2 a3 a4 x12_1 (List.replicate (ji15 : Int).toNat 0) 0 a0_0 a0_1 a0_2 l0_3 a3 a4 a0_2 x595003_1) else (none)) else (none)) = some (r1, r2, r3, r4) := by first | (rw [hji15] at H; exact H) | (simp only [hji15] at H ⊢; exact H)
    have hji15w : (IntKind.i64.wrap (a3 * a4)) = ji15 := (i64_w _).trans hji15
    by_cases c16 : 0 ≤ (ji15)
    ·rw [if_pos c16] at H
     have c16b0 := eq_true c16
     have c16b1 : decide (0 ≤ (ji15)) = true := decide_eq_true c16
     clear c16
     by_cases c17 : (ji15 : Int).toNat ≤ 35184372088832
     ·rw [if_pos c17] at H
      have c17b0 := eq_true c17
      have c17b1 : decide ((ji15 : Int).toNat ≤ 35184372088832) = true := decide_eq_true c17
      clear c17
      obtain ⟨y595, hy595⟩ : ∃ y_ : List Int, y_ = (List.replicate (ji15 : Int).toNat 0) := ⟨_, rfl⟩
      replace H : (l15_part.l1 k1 a1 a2 a3 a4 x12_1 y595 0 a0_0 a0_1 a0_2 l0_3 a3 a4 a0_2 x595003_1) = some (r1, r2, r3, r4) := by first | (rw [hy595]; with_reducible exact H) | (have H2_ := (Option.bind_some _ _).symm.trans H; rw [hy595]; with_reducible exact H2_) | (have H2_ := (Option.bind_some _ _).symm.trans H; with_reducible exact H2_) | with_reducible exact H | (rw [hy595]; exact H) | exact H
      have Ny595 := As0.mk hy595
      clear hy595
      have H' := As0.mk H
      clear H
      have hnb18 := NB592_593.out
      have hnc18 := NB593_592.out
      have hnb19 := NB592_594.out
      have hnc19 := NB594_592.out
      have hcz20_0 : wr.cell? ⟨gb592, 0, none⟩ = some (.int .i64 a0_0) := (bkc BK592.out 0).trans rfl
      have hcz20_1 : wr.cell? ⟨gb592, 1, none⟩ = some (.int .i64 a0_1) := (bkc BK592.out 1).trans rfl
      have hcz20_2 : wr.cell? ⟨gb592, 2, none⟩ = some (.int .i64 a0_2) := (bkc BK592.out 2).trans rfl
      have hcz20_3 : wr.cell? ⟨gb592, 3, none⟩ = some (.slice A0_3 l0_3.length c0_3) := (bkc BK592.out 3).trans rfl
      have hfz20_0 := bkz BK592.out 0
      have hfz20_1 := bkz BK592.out 1
      have hfz20_2 := bkz BK592.out 2
      have hfz20_3 := bkz BK592.out 3
      go_wp2_with (first | ((with_reducible refine gdt (N := 32) rfl ?_); refine Kd.R_make (Kd.int .i64) _ 3 rfl (N := 32) rfl 39 _ _ rfl ji15 rfl rfl Tryz.underlying39 (.int .i64 0) 8 info3 rfl (by decide) (by omega) 0 (ok := fun _ => True) (okp := fun _ => True) rfl (fun _ hk => hk) trivial (of_decide_eq_true (by first | (with_reducible assumption) | assumption)) (Nat.le_trans (Nat.mul_le_mul_right _ (of_decide_eq_true (by first | (with_reducible assumption) | assumption) : ji15.toNat ≤ 35184372088832)) (by omega)) (Below.refl _ _) (Nat.le_refl _) ?_; intro v596 w21 ho22 hb hg_ hnew_; clear hg_ hnew_; (first | rw [← Ny595.out] at ho22 | (simp only [Int.reduceToNat] at ho22; rw [← Ny595.out] at ho22)); have n0_ := As0.mk (Kd.S_elder' (by (with_reducible repeat (first | apply Kd.S_alloc | apply Kd.S_drewN | apply Kd.S_drew)); exact HO_595003.out) (Kd.R_base ho22) hb); have n1_ := As0.mk (Kd.R_lower ho22 (bwz (by repeat (first | (with_reducible first | exact HB.out | apply bwa | apply pwN | apply bwd | refine bws ?_ GE592.out | refine bws ?_ GE593.out | refine bws ?_ GE594.out) | exact HB.out)))); have n2_ := As0.mk (bkb (g := gb592) (o := .cells #[.int .i64 a0_0, .int .i64 a0_1, .int .i64 a0_2, .slice A0_3 l0_3.length c0_3] 24 (0, 0)) (by (with_reducible repeat (first | refine bkN ?_ _ | refine bkd ?_ | refine bka ?_ _)); exact BK592.out) hb); have n3_ := As0.mk (bkb (g := gb593) (o := .cells #[.int .i64 0, .int .i64 0, .int .i64 0, .slice none 0 0] 24 (0, 0)) (by (with_reducible repeat (first | refine bkN ?_ _ | refine bkd ?_ | refine bka ?_ _)); exact BK593.out) hb); have n4_ := As0.mk (bkb (g := gb594) (o := .cells #[.int .i64 a3, .int .i64 a4, .int .i64 a0_2, u595003] 24 (0, 0)) (by (with_reducible repeat (first | refine bkN ?_ _ | refine bkd ?_ | refine bka ?_ _)); exact BK594.out) hb); have n5_ := As0.mk (bwp (by repeat (first | (with_reducible first | exact HB.out | apply bwa | apply pwN | apply bwd | refine bws ?_ GE592.out | refine bws ?_ GE593.out | refine bws ?_ GE594.out) | exact HB.out)) hb); clear HO_595003; clear BK592; clear BK593; clear BK594; clear HB; have HO_595003 := n0_; have HO597 := n1_; have BK592 := n2_; have BK593 := n3_; have BK594 := n4_; have HB := n5_; clear n0_ n1_ n2_ n3_ n4_ n5_; clear hb ho22))
      go_loopg [14] k1 (fun kq v14 w' => ∃ (x13_2 : List Int) (x14_2 : Int), v14 = .int .i64 x14_2 ∧ As0 (l15_part.l1 kq a1 a2 a3 a4 x12_1 x13_2 x14_2 a0_0 a0_1 a0_2 l0_3 a3 a4 a0_2 x595003_1 = some (r1, r2, r3, r4)) ∧ As0 (kq ≤ k1) ∧ As0 (Kd.R (Kd.int .i64) 3 w' w.heap.size (fun _ => True) v596 x13_2) ∧ As0 (Kd.S (Kd.slice 3 (Kd.int .i64)) 39 w' w.heap.size (fun k_ => some k_ ≠ (v596 : Value).ownBlock) u595003 x595003_1) ∧ As0 (w'.heap[gb592]? = some (.cells #[.int .i64 a0_0, .int .i64 a0_1, .int .i64 a0_2, (.slice A0_3 l0_3.length c0_3)] 24 (0, 0))) ∧ As0 (w'.heap[gb593]? = some (.cells #[.int .i64 0, .int .i64 0, .int .i64 0, (.slice none 0 0)] 24 (0, 0))) ∧ As0 (w'.heap[gb594]? = some (.cells #[.int .i64 a3, .int .i64 a4, .int .i64 a0_2, u595003] 24 (0, 0))) ∧ As0 (Below w.heap.size w w'))
      case atStart => exact ⟨(y595), (0), (by first | rfl | (simp; done) | (simp [*]; done)), H', ⟨Nat.le_refl _⟩, ⟨by (with_reducible repeat (first | apply Kd.R_alloc | apply Kd.R_drewN | apply Kd.R_drew)); exact HO597.out⟩, ⟨by (with_reducible repeat (first | apply Kd.S_alloc | apply Kd.S_drewN | apply Kd.S_drew)); exact Kd.S_mono HO_595003.out (fun _ hk => hk.2)⟩, ⟨by (with_reducible repeat (first | refine bkN ?_ _ | refine bkd ?_ | refine bka ?_ _)); exact BK592.out⟩, ⟨by (with_reducible repeat (first | refine bkN ?_ _ | refine bkd ?_ | refine bka ?_ _)); exact BK593.out⟩, ⟨by (with_reducible repeat (first | refine bkN ?_ _ | refine bkd ?_ | refine bka ?_ _)); exact BK594.out⟩, ⟨by repeat (first | (with_reducible first | exact HB.out | apply bwa | apply pwN | apply bwd | refine bws ?_ GE592.out | refine bws ?_ GE593.out | refine bws ?_ GE594.out) | exact HB.out)⟩⟩
      case round =>
       clear H'
       try clear c1
       try clear p2
       try clear c3
       try clear p6
       try clear c8
       try clear c11
       try clear c12
       try clear c14
       try clear c14b0
       try clear c16
       try clear c16b0
       try clear c16b1
       try clear c17
       try clear c17b0
       try clear c17b1
       try clear c18
       try clear c19
       try clear hcz13_0
       try clear hcz13_1
       try clear hcz13_2
       try clear hcz13_3
       try clear hcz20_0
       try clear hcz20_1
       try clear hcz20_2
       try clear hcz20_3
       try clear hcz9_0
       try clear hcz9_1
       try clear hcz9_2
       try clear hcz9_3
       try clear hfz13_0
       try clear hfz13_1
       try clear hfz13_2
       try clear hfz13_3
       try clear hfz20_0
       try clear hfz20_1
       try clear hfz20_2
       try clear hfz20_3
       try clear hfz9_0
       try clear hfz9_1
       try clear hfz9_2
       try clear hfz9_3
       try clear p2
       obtain ⟨x13_2, x14_2, rfl, HA, HK2, HO_13, HO_595003, BK592, BK593, BK594, HB⟩ := hrel
       cases gk with
       | zero => exact absurd HA.out (by simp [l15_part.l1])
       | succ k2 =>
        have H := HA.out
        clear HA
        simp only [l15_part.l1] at H
        by_cases c23 : x14_2 < (x13_2.length : Int)
        ·rw [if_pos c23] at H
         have c23b0 : decide (x14_2 < (x13_2.length : Int)) = true := decide_eq_true c23
         clear c23
         by_cases c24 : a3 = 0
         ·rw [if_pos c24] at H
          exact absurd H (by simp)
         ·rw [if_neg c24] at H
          have c24b0 : (a3 == 0) = false := beq_eq_false_iff_ne.mpr c24
          have c24b1 : (a3 != 0) = true := bne_iff_ne.mpr c24
          by_cases c25 : (wrap64 (a1 + (Int.tmod x14_2 a3))) < a0_0
          ·rw [if_pos c25] at H
           have c25b0 : decide ((wrap64 (a1 + (Int.tmod x14_2 a3))) < a0_0) = true := decide_eq_true c25
           clear c25
           by_cases c26 : (wrap64 (a2 + (wrap64 (Int.tdiv x14_2 a3)))) < a0_1
           ·rw [if_pos c26] at H
            have c26b0 : decide ((wrap64 (a2 + (wrap64 (Int.tdiv x14_2 a3)))) < a0_1) = true := decide_eq_true c26
            clear c26
            by_cases c27 : 0 ≤ x12_1
            ·rw [if_pos c27] at H
             have c27b0 : decide (0 ≤ x12_1) = true := decide_eq_true c27
             clear c27
             by_cases c28 : x12_1 < (l0_3.length : Int)
             ·rw [if_pos c28] at H
              have c28b0 : decide (x12_1 < (l0_3.length : Int)) = true := decide_eq_true c28
              clear c28
              obtain ⟨ji29, hji29⟩ : ∃ j_ : Int, (wrap64 ((wrap64 ((wrap64 (a2 + (wrap64 (Int.tdiv x14_2 a3)))) * a0_0)) + (wrap64 (a1 + (Int.tmod x14_2 a3))))) = j_ := ⟨_, rfl⟩
              replace H : (if 0 ≤ (ji29) then (if (ji29) < ((rd_L1 l0_3 x12_1).length : Int) then (if 0 ≤ x14_2 then (l15_part.l1 k2 a1 a2 a3 a4 x12_1 (x13_2.set (x14_2 : Int).toNat (rd (rd_L1 l0_3 x12_1) (ji29))) (wrap64 (x14_2 + 1)) a0_0 a0_1 a0_2 l0_3 a3 a4 a0_2 x595003_1) else (none)) else (none)) else (none)) = some (r1, r2, r3, r4) := by first | (rw [hji29] at H; exact H) | (simp only [hji29] at H ⊢; exact H)
              have hji29w : (IntKind.i64.wrap ((wrap64 ((wrap64 (a2 + (wrap64 (Int.tdiv x14_2 a3)))) * a0_0)) + (wrap64 (a1 + (Int.tmod x14_2 a3))))) = ji29 := (i64_w _).trans hji29
              by_cases c30 : 0 ≤ (ji29)
              ·rw [if_pos c30] at H
               have c30b0 : decide (0 ≤ (ji29)) = true := decide_eq_true c30
               clear c30
               by_cases c31 : (ji29) < ((rd_L1 l0_3 x12_1).length : Int)
               ·rw [if_pos c31] at H
                have c31b0 : decide ((ji29) < ((rd_L1 l0_3 x12_1).length : Int)) = true := decide_eq_true c31
                clear c31
                by_cases c32 : 0 ≤ x14_2
                ·rw [if_pos c32] at H
                 have c32b0 : decide (0 ≤ x14_2) = true := decide_eq_true c32
                 clear c32
                 obtain ⟨y600, hy600⟩ : ∃ y_ : List Int, y_ = (x13_2.set (x14_2 : Int).toNat (rd (rd_L1 l0_3 x12_1) (ji29))) := ⟨_, rfl⟩
                 replace H : (l15_part.l1 k2 a1 a2 a3 a4 x12_1 y600 (wrap64 (x14_2 + 1)) a0_0 a0_1 a0_2 l0_3 a3 a4 a0_2 x595003_1) = some (r1, r2, r3, r4) := by first | (rw [hy600]; with_reducible exact H) | (have H2_ := (Option.bind_some _ _).symm.trans H; rw [hy600]; with_reducible exact H2_) | (have H2_ := (Option.bind_some _ _).symm.trans H; with_reducible exact H2_) | with_reducible exact H | (rw [hy600]; exact H) | exact H
                 have Ny600 := As0.mk hy600
                 clear hy600
                 have H' := As0.mk H
                 clear H
                 obtain ⟨Ao34, co34, eo34⟩ := Kd.R_slice HO_13.out
                 subst eo34
                 try go_wp2
                 have n0_ := As0.mk (Kd.R_drew HO_13.out)
                 have n1_ := As0.mk (Kd.S_drew HO_595003.out)
                 have n2_ := As0.mk (bkd BK592.out)
                 have n3_ := As0.mk (bkd BK593.out)
                 have n4_ := As0.mk (bkd BK594.out)
                 have n5_ := As0.mk (bwd HB.out)
                 clear HO_13
                 clear HO_595003
                 clear BK592
                 clear BK593
                 clear BK594
                 clear HB
                 have HO_13 := n0_
                 have HO_595003 := n1_
                 have BK592 := n2_
                 have BK593 := n3_
                 have BK594 := n4_
                 have HB := n5_
                 clear n0_ n1_ n2_ n3_ n4_ n5_
                 refine start_ (n := 12) (S := fun w' => True) (ds := []) #[false, false, false, false, false, false, false, false, false, false, false, false] (by kernel_rfl) rfl rfl trivial (fun hHeld => ?_); refine with_tabW l15_part.tab9 l15_part.bits9 (fun HT_ HW_ => ?_)
                 generalize wr.drew = w35 at HO_13 HO_595003 BK592 BK593 BK594 HB hHeld ⊢
                 refine pure_ (i := 0) (N := some 39) (v := ?_) (a' := ?_) #[true, false, false, false, false, false, false, false, false, false, false, false] rfl rfl (any_of HT_.out (by kernel_rfl)) (fun _ _ _ h => h) (Or.inl ⟨by rfl, ?_⟩) ?_ ?_
                 rotate_left
                 ·intro w'
                  go_simp
                  with_reducible rfl
                 rotate_left
                 ·simp only [Act.put, List.setIfInBounds_toArray, List.set_cons_zero, List.set_cons_succ, i64_w, i32_w]
                  rfl
                 refine pure_ (i := 1) (N := some 40) (v := ?_) (a' := ?_) #[true, true, false, false, false, false, false, false, false, false, false, false] rfl rfl (any_of HT_.out (by kernel_rfl)) (fun _ _ _ h => h) (Or.inl ⟨by rfl, ?_⟩) ?_ ?_
                 rotate_left
                 ·intro w'
                  go_simp
                  with_reducible rfl
                 rotate_left
                 ·simp only [Act.put, List.setIfInBounds_toArray, List.set_cons_zero, List.set_cons_succ, i64_w, i32_w]
                  rfl
                 refine pure_ (i := 2) (N := some 41) (v := ?_) (a' := ?_) #[true, true, true, false, false, false, false, false, false, false, false, false] rfl rfl (any_of HT_.out (by kernel_rfl)) (fun _ _ _ h => h) (Or.inl ⟨by rfl, ?_⟩) ?_ ?_
                 rotate_left
                 ·intro w'
                  go_simp
                  with_reducible rfl
                 rotate_left
                 ·simp only [Act.put, List.setIfInBounds_toArray, List.set_cons_zero, List.set_cons_succ, i64_w, i32_w]
                  rfl
                 refine pure_ (i := 3) (N := some 42) (v := ?_) (a' := ?_) #[true, true, true, true, false, false, false, false, false, false, false, false] rfl rfl (any_of HT_.out (by kernel_rfl)) (fun _ _ _ h => h) (Or.inl ⟨by rfl, ?_⟩) ?_ ?_
                 rotate_left
                 ·intro w'
                  go_simp
                  with_reducible rfl
                 rotate_left
                 ·simp only [Act.put, List.setIfInBounds_toArray, List.set_cons_zero, List.set_cons_succ, i64_w, i32_w]
                  rfl
                 refine pure_ (i := 4) (N := some 43) (v := ?_) (a' := ?_) #[true, true, true, true, true, false, false, false, false, false, false, false] rfl rfl (any_of HT_.out (by kernel_rfl)) (fun _ _ _ h => h) (Or.inl ⟨by rfl, ?_⟩) ?_ ?_
                 rotate_left
                 ·intro w'
                  go_simp
                  with_reducible rfl
                 rotate_left
                 ·simp only [Act.put, List.setIfInBounds_toArray, List.set_cons_zero, List.set_cons_succ, i64_w, i32_w]
                  rfl
                 refine pure_ (i := 5) (N := some 44) (v := ?_) (a' := ?_) #[true, true, true, true, true, true, false, false, false, false, false, false] rfl rfl (any_of HT_.out (by kernel_rfl)) (fun _ _ _ h => h) (Or.inl ⟨by rfl, ?_⟩) ?_ ?_
                 rotate_left
                 ·intro w'
                  go_simp
                  with_reducible rfl
                 rotate_left
                 ·simp only [Act.put, List.setIfInBounds_toArray, List.set_cons_zero, List.set_cons_succ, i64_w, i32_w]
                  rfl
                 refine pure_ (i := 6) (N := some 45) (v := ?_) (a' := ?_) #[true, true, true, true, true, true, true, false, false, false, false, false] rfl rfl (any_of HT_.out (by kernel_rfl)) (fun _ _ _ h => h) (Or.inl ⟨by rfl, ?_⟩) ?_ ?_
                 rotate_left
                 ·intro w'
                  go_simp
                  with_reducible rfl
                 rotate_left
                 ·simp only [Act.put, List.setIfInBounds_toArray, List.set_cons_zero, List.set_cons_succ, i64_w, i32_w]
                  rfl
                 refine pure_ (i := 7) (N := some 46) (v := ?_) (a' := ?_) #[true, true, true, true, true, true, true, true, false, false, false, false] rfl rfl (any_of HT_.out (by kernel_rfl)) (fun _ _ _ h => h) (Or.inl ⟨by rfl, ?_⟩) ?_ ?_
                 rotate_left
                 ·intro w'
                  go_simp
                  with_reducible rfl
                 rotate_left
                 ·simp only [Act.put, List.setIfInBounds_toArray, List.set_cons_zero, List.set_cons_succ, i64_w, i32_w]
                  rfl
                 refine pure_ (i := 8) (N := some 47) (v := ?_) (a' := ?_) #[true, true, true, true, true, true, true, true, true, false, false, false] rfl rfl (any_of HT_.out (by kernel_rfl)) (fun _ _ _ h => h) (Or.inl ⟨by rfl, ?_⟩) ?_ ?_
                 rotate_left
                 ·intro w'
                  go_simp
                  with_reducible rfl
                 rotate_left
                 ·simp only [Act.put, List.setIfInBounds_toArray, List.set_cons_zero, List.set_cons_succ, i64_w, i32_w]
                  rfl
                 refine pure_ (i := 9) (N := some 48) (v := ?_) (a' := ?_) #[true, true, true, true, true, true, true, true, true, true, false, false] rfl rfl (any_of HT_.out (by kernel_rfl)) (fun _ _ _ h => h) (Or.inl ⟨by rfl, ?_⟩) ?_ ?_
                 rotate_left
                 ·intro w'
                  go_simp
                  with_reducible rfl
                 rotate_left
                 ·simp only [Act.put, List.setIfInBounds_toArray, List.set_cons_zero, List.set_cons_succ, i64_w, i32_w]
                  rfl
                 refine pure_ (i := 10) (N := some 15) (v := ?_) (a' := ?_) #[true, true, true, true, true, true, true, true, true, true, true, false] rfl rfl (any_of HT_.out (by kernel_rfl)) (fun _ _ _ h => h) (Or.inl ⟨by rfl, ?_⟩) ?_ ?_
                 rotate_left
                 ·intro w'
                  go_simp
                  with_reducible rfl
                 rotate_left
                 ·simp only [Act.put, List.setIfInBounds_toArray, List.set_cons_zero, List.set_cons_succ, i64_w, i32_w]
                  rfl
                 refine pure_ (i := 11) (N := some 16) (v := ?_) (a' := ?_) #[true, true, true, true, true, true, true, true, true, true, true, true] rfl rfl (any_of HT_.out (by kernel_rfl)) (fun _ _ _ h => h) (Or.inl ⟨by rfl, ?_⟩) ?_ ?_
                 rotate_left
                 ·intro w'
                  go_simp
                  with_reducible rfl
                 rotate_left
                 ·simp only [Act.put, List.setIfInBounds_toArray, List.set_cons_zero, List.set_cons_succ, i64_w, i32_w]
                  rfl
                 refine done_ (done_of HT_.out (by kernel_rfl)) ?_
                 have hnb36 := NB592_593.out
                 have hnc36 := NB593_592.out
                 have hnb37 := NB592_594.out
                 have hnc37 := NB594_592.out
                 have hcz38_0 : w35.cell? ⟨gb592, 0, none⟩ = some (.int .i64 a0_0) := (bkc BK592.out 0).trans rfl
                 have hcz38_1 : w35.cell? ⟨gb592, 1, none⟩ = some (.int .i64 a0_1) := (bkc BK592.out 1).trans rfl
                 have hcz38_2 : w35.cell? ⟨gb592, 2, none⟩ = some (.int .i64 a0_2) := (bkc BK592.out 2).trans rfl
                 have hcz38_3 : w35.cell? ⟨gb592, 3, none⟩ = some (.slice A0_3 l0_3.length c0_3) := (bkc BK592.out 3).trans rfl
                 have hfz38_0 := bkz BK592.out 0
                 have hfz38_1 := bkz BK592.out 1
                 have hfz38_2 := bkz BK592.out 2
                 have hfz38_3 := bkz BK592.out 3
                 try go_wp2
                 have n0_ := As0.mk (Kd.R_drew HO_13.out)
                 have n1_ := As0.mk (Kd.S_drew HO_595003.out)
                 have n2_ := As0.mk (bkd BK592.out)
                 have n3_ := As0.mk (bkd BK593.out)
                 have n4_ := As0.mk (bkd BK594.out)
                 have n5_ := As0.mk (bwd HB.out)
                 clear HO_13
                 clear HO_595003
                 clear BK592
                 clear BK593
                 clear BK594
                 clear HB
                 have HO_13 := n0_
                 have HO_595003 := n1_
                 have BK592 := n2_
                 have BK593 := n3_
                 have BK594 := n4_
                 have HB := n5_
                 clear n0_ n1_ n2_ n3_ n4_ n5_
                 have p598 : 0 ≤ (x12_1 : Int) := of_decide_eq_true (by first | (with_reducible assumption) | assumption)
                 have q598 : x12_1 < (l0_3.length : Int) := of_decide_eq_true (by first | (with_reducible assumption) | assumption)
                 obtain ⟨ad598, A598_0, c598_0, e598, hx598_0, hl598_0, hi598_0⟩ := at_L1 HR0_3.out x12_1 p598 q598
                 have hw598_0 := hx598_0
                 cases e598
                 replace hx598_0 := (HB.out.cell (World.block_lt_of_cell? w _ hx598_0)).trans hx598_0
                 have HR598_0 := As0.mk hi598_0
                 have HC598_0 := As0.mk hl598_0
                 clear hi598_0 hl598_0
                 replace p598 := eq_true p598
                 replace q598 := eq_true q598
                 have p599 : 0 ≤ ((ji29) : Int) := of_decide_eq_true (by first | (with_reducible assumption) | assumption)
                 have q599 : (ji29) < ((rd_L1 l0_3 x12_1).length : Int) := of_decide_eq_true (by first | (with_reducible assumption) | assumption)
                 obtain ⟨ad599, e599, hx599_0⟩ := Kd.at_int HR598_0.out (ji29) p599 q599
                 have hw599_0 := hx599_0
                 cases e599
                 replace hx599_0 := (HB.out.cell (World.block_lt_of_cell? w _ hx599_0)).trans hx599_0
                 replace p599 := eq_true p599
                 replace q599 := eq_true q599
                 have p33 : 0 ≤ (x14_2 : Int) := of_decide_eq_true (by first | (with_reducible assumption) | assumption)
                 have q33 : (x14_2 : Int) < ((x13_2.length : Int) : Int) := of_decide_eq_true (by first | (with_reducible assumption) | assumption)
                 obtain ⟨go33, co33, eo33, gb33, gl33, cl33, HG33⟩ := Kd.R_form HO_13.out (by omega)
                 (first | cases eo33 | (injection eo33 with ea_ en_ ec_; (first | subst ea_ | (injection ea_ with ea_; subst ea_)); subst ec_; clear en_))
                 have GB33 := As0.mk gb33
                 have GG33 := As0.mk HG33
                 clear gb33 gl33 HG33
                 obtain ⟨hx33_0, hf33_0⟩ := Kd.R_celln 0 HO_13.out (x14_2 : Int) p33 q33
                 replace p33 := eq_true p33
                 replace q33 := eq_true q33
                 have HP40 := Kd.R_putn HO_13.out (x14_2 : Int) (rd (rd_L1 l0_3 x12_1) (ji29))
                 rw [← Ny600.out] at HP40
                 have HQ40 := As0.mk HP40
                 clear HP40
                 refine start_ (n := 17) (S := fun w' => w'.cell? ⟨gb592, 0, none⟩ = some (.int .i64 a0_0) ∧ w'.cell? ⟨gb592, 1, none⟩ = some (.int .i64 a0_1) ∧ w'.cell? ⟨gb592, 2, none⟩ = some (.int .i64 a0_2) ∧ w'.cell? ⟨gb592, 3, none⟩ = some (.slice (some ad598) l0_3.length c0_3) ∧ w'.cell? (ad598.add (x12_1).toNat) = some (.slice (some ad599) (rd_L1 l0_3 x12_1).length c598_0) ∧ w'.cell? (ad599.add ((ji29)).toNat) = some (.int .i64 (rd (rd_L1 l0_3 x12_1) (ji29)))) (ds := [16]) #[false, false, false, false, false, false, false, false, false, false, false, false, false, false, false, false, false] (by kernel_rfl) rfl rfl ⟨(bkc BK592.out 0).trans rfl, (bkc BK592.out 1).trans rfl, (bkc BK592.out 2).trans rfl, (bkc BK592.out 3).trans rfl, ((HB.out.cell (World.block_lt_of_cell? w _ hw598_0)).trans hw598_0), ((HB.out.cell (World.block_lt_of_cell? w _ hw599_0)).trans hw599_0)⟩ (fun hHeld => ?_); refine with_tabW l15_part.tab11 l15_part.bits11 (fun HT_ HW_ => ?_)
                 generalize w35.drew = w39 at HO_13 HO_595003 BK592 BK593 BK594 HB GG33 HQ40 HR598_0 hf33_0 hx33_0 hx598_0 hx599_0 hHeld ⊢
                 refine pure_ (i := 0) (N := some 59) (v := ?_) (a' := ?_) #[true, false, false, false, false, false, false, false, false, false, false, false, false, false, false, false, false] rfl rfl (any_of HT_.out (by kernel_rfl)) (fun _ _ _ h => h) (Or.inl ⟨by rfl, ?_⟩) ?_ ?_
                 rotate_left
                 ·intro w'
                  go_simp
                  with_reducible rfl
                 rotate_left
                 ·simp only [Act.put, List.setIfInBounds_toArray, List.set_cons_zero, List.set_cons_succ, i64_w, i32_w]
                  rfl
                 refine pure_ (i := 1) (N := some 60) (v := ?_) (a' := ?_) #[true, true, false, false, false, false, false, false, false, false, false, false, false, false, false, false, false] rfl rfl (any_of HT_.out (by kernel_rfl)) (fun _ _ _ h => h) (Or.inl ⟨by rfl, ?_⟩) ?_ ?_
                 rotate_left
                 ·intro w'
                  go_simp
                  with_reducible rfl
                 rotate_left
                 ·simp only [Act.put, List.setIfInBounds_toArray, List.set_cons_zero, List.set_cons_succ, i64_w, i32_w]
                  rfl
                 refine pure_ (i := 2) (N := some 61) (v := ?_) (a' := ?_) #[true, true, true, false, false, false, false, false, false, false, false, false, false, false, false, false, false] rfl rfl (any_of HT_.out (by kernel_rfl)) (fun _ _ _ h => h) (Or.inl ⟨by rfl, ?_⟩) ?_ ?_
                 rotate_left
                 ·intro w'
                  go_simp
                  with_reducible rfl
                 rotate_left
                 ·simp only [Act.put, List.setIfInBounds_toArray, List.set_cons_zero, List.set_cons_succ, i64_w, i32_w]
                  rfl
                 refine pure_ (i := 4) (N := some 63) (v := ?_) (a' := ?_) #[true, true, true, false, true, false, false, false, false, false, false, false, false, false, false, false, false] rfl rfl (any_of HT_.out (by kernel_rfl)) (fun _ _ _ h => h) (Or.inl ⟨by rfl, ?_⟩) ?_ ?_
                 rotate_left
                 ·intro w'
                  go_simp
                  with_reducible rfl
                 rotate_left
                 ·simp only [Act.put, List.setIfInBounds_toArray, List.set_cons_zero, List.set_cons_succ, i64_w, i32_w]
                  rfl
                 refine pure_ (i := 7) (N := some 66) (v := ?_) (a' := ?_) #[true, true, true, false, true, false, false, true, false, false, false, false, false, false, false, false, false] rfl rfl (any_of HT_.out (by kernel_rfl)) (fun _ _ _ h => h) (Or.inl ⟨by rfl, ?_⟩) ?_ ?_
                 rotate_left
                 ·intro w'
                  go_simp
                  with_reducible rfl
                 rotate_left
                 ·simp only [Act.put, List.setIfInBounds_toArray, List.set_cons_zero, List.set_cons_succ, i64_w, i32_w]
                  rfl
                 refine pure_ (i := 8) (N := some 67) (v := ?_) (a' := ?_) #[true, true, true, false, true, false, false, true, true, false, false, false, false, false, false, false, false] rfl rfl (any_of HT_.out (by kernel_rfl)) (fun _ _ _ h => h) (Or.inl ⟨by rfl, ?_⟩) ?_ ?_
                 rotate_left
                 ·intro w'
                  go_simp
                  with_reducible rfl
                 rotate_left
                 ·simp only [Act.put, List.setIfInBounds_toArray, List.set_cons_zero, List.set_cons_succ, i64_w, i32_w]
                  rfl
                 refine pure_ (i := 11) (N := some 70) (v := ?_) (a' := ?_) #[true, true, true, false, true, false, false, true, true, false, false, true, false, false, false, false, false] rfl rfl (any_of HT_.out (by kernel_rfl)) (fun _ _ _ h => h) (Or.inl ⟨by rfl, ?_⟩) ?_ ?_
                 rotate_left
                 ·intro w'
                  go_simp
                  with_reducible rfl
                 rotate_left
                 ·simp only [Act.put, List.setIfInBounds_toArray, List.set_cons_zero, List.set_cons_succ, i64_w, i32_w]
                  rfl
                 refine take_ (i := 3) (N := some 62) (v := ?_) (a' := ?_) #[true, true, true, true, true, false, false, true, true, false, false, true, false, false, false, false, false] rfl rfl (take_ofW HT_.out HW_.out (by kernel_rfl)) (fun _ _ _ h => h) (Or.inl ⟨by rfl, ?_⟩) hHeld ?_ ?_
                 rotate_left
                 ·rintro w' ⟨s0, s1, s2, s3, s4, s5⟩
                  go_simp
                  with_reducible rfl
                 rotate_left
                 ·simp only [Act.put, List.setIfInBounds_toArray, List.set_cons_zero, List.set_cons_succ, i64_w, i32_w]
                  rfl
                 refine pure_ (i := 5) (N := some 64) (v := ?_) (a' := ?_) #[true, true, true, true, true, true, false, true, true, false, false, true, false, false, false, false, false] rfl rfl (any_of HT_.out (by kernel_rfl)) (fun _ _ _ h => h) (Or.inl ⟨by rfl, ?_⟩) ?_ ?_
                 rotate_left
                 ·intro w'
                  go_simp
                  with_reducible rfl
                 rotate_left
                 ·simp only [Act.put, List.setIfInBounds_toArray, List.set_cons_zero, List.set_cons_succ, i64_w, i32_w]
                  rfl
                 refine take_ (i := 6) (N := some 65) (v := ?_) (a' := ?_) #[true, true, true, true, true, true, true, true, true, false, false, true, false, false, false, false, false] rfl rfl (take_ofW HT_.out HW_.out (by kernel_rfl)) (fun _ _ _ h => h) (Or.inl ⟨by rfl, ?_⟩) hHeld ?_ ?_
                 rotate_left
                 ·rintro w' ⟨s0, s1, s2, s3, s4, s5⟩
                  go_simp
                  with_reducible rfl
                 rotate_left
                 ·simp only [Act.put, List.setIfInBounds_toArray, List.set_cons_zero, List.set_cons_succ, i64_w, i32_w]
                  rfl
                 refine take_ (i := 9) (N := some 68) (v := ?_) (a' := ?_) #[true, true, true, true, true, true, true, true, true, true, false, true, false, false, false, false, false] rfl rfl (take_ofW HT_.out HW_.out (by kernel_rfl)) (fun _ _ _ h => h) (Or.inl ⟨by rfl, ?_⟩) hHeld ?_ ?_
                 rotate_left
                 ·rintro w' ⟨s0, s1, s2, s3, s4, s5⟩
                  go_simp
                  with_reducible rfl
                 rotate_left
                 ·simp only [Act.put, List.setIfInBounds_toArray, List.set_cons_zero, List.set_cons_succ, i64_w, i32_w]
                  rfl
                 refine pure_ (i := 10) (N := some 69) (v := ?_) (a' := ?_) #[true, true, true, true, true, true, true, true, true, true, true, true, false, false, false, false, false] rfl rfl (any_of HT_.out (by kernel_rfl)) (fun _ _ _ h => h) (Or.inl ⟨by rfl, ?_⟩) ?_ ?_
                 rotate_left
                 ·intro w'
                  go_simp
                  with_reducible rfl
                 rotate_left
                 ·simp only [Act.put, List.setIfInBounds_toArray, List.set_cons_zero, List.set_cons_succ, i64_w, i32_w]
                  rfl
                 refine pure_ (i := 12) (N := some 71) (v := ?_) (a' := ?_) #[true, true, true, true, true, true, true, true, true, true, true, true, true, false, false, false, false] rfl rfl (any_of HT_.out (by kernel_rfl)) (fun _ _ _ h => h) (Or.inl ⟨by rfl, ?_⟩) ?_ ?_
                 rotate_left
                 ·intro w'
                  go_simp
                  with_reducible rfl
                 rotate_left
                 ·simp only [Act.put, List.setIfInBounds_toArray, List.set_cons_zero, List.set_cons_succ, i64_w, i32_w]
                  rfl
                 refine pure_ (i := 13) (N := some 72) (v := ?_) (a' := ?_) #[true, true, true, true, true, true, true, true, true, true, true, true, true, true, false, false, false] rfl rfl (any_of HT_.out (by kernel_rfl)) (fun _ _ _ h => h) (Or.inl ⟨by rfl, ?_⟩) ?_ ?_
                 rotate_left
                 ·intro w'
                  go_simp
                  with_reducible rfl
                 rotate_left
                 ·simp only [Act.put, List.setIfInBounds_toArray, List.set_cons_zero, List.set_cons_succ, i64_w, i32_w]
                  rfl
                 refine take_ (i := 14) (N := some 73) (v := ?_) (a' := ?_) #[true, true, true, true, true, true, true, true, true, true, true, true, true, true, true, false, false] rfl rfl (take_ofW HT_.out HW_.out (by kernel_rfl)) (fun _ _ _ h => h) (Or.inl ⟨by rfl, ?_⟩) hHeld ?_ ?_
                 rotate_left
                 ·rintro w' ⟨s0, s1, s2, s3, s4, s5⟩
                  go_simp
                  with_reducible rfl
                 rotate_left
                 ·simp only [Act.put, List.setIfInBounds_toArray, List.set_cons_zero, List.set_cons_succ, i64_w, i32_w]
                  rfl
                 refine pure_ (i := 15) (N := some 74) (v := ?_) (a' := ?_) #[true, true, true, true, true, true, true, true, true, true, true, true, true, true, true, true, false] rfl rfl (any_of HT_.out (by kernel_rfl)) (fun _ _ _ h => h) (Or.inl ⟨by rfl, ?_⟩) ?_ ?_
                 rotate_left
                 ·intro w'
                  go_simp
                  with_reducible rfl
                 rotate_left
                 ·simp only [Act.put, List.setIfInBounds_toArray, List.set_cons_zero, List.set_cons_succ, i64_w, i32_w]
                  rfl
                 refine last_ (i := 16) (N := none) #[true, true, true, true, true, true, true, true, true, true, true, true, true, true, true, true, true] rfl rfl (one_of HT_.out (by kernel_rfl)) (by decide) (fun K hK => ?_)
                 refine skip_ (w1 := ?_) (by rfl) rfl ?_ ?_
                 rotate_left
                 ·go_simp
                  rfl
                 refine hK.out _ _ ?_
                 clear hK K
                 refine done_ (done_of HT_.out (by kernel_rfl)) ?_
                 try go_wp2
                 go_roundg k2
                 case measure => have := HK1.out; have := HK2.out; omega
                 case rel => exact ⟨(y600), (wrap64 (x14_2 + 1)), (by first | rfl | (simp; done) | (simp [*]; done)), H', ⟨by have := HK1.out; have := HK2.out; omega⟩, ⟨by (with_reducible repeat (first | apply Kd.R_alloc | apply Kd.R_drewN | apply Kd.R_drew)); exact HQ40.out⟩, ⟨by (with_reducible repeat (first | apply Kd.S_alloc | apply Kd.S_drewN | apply Kd.S_drew)); exact Kd.S_mono (Kd.S_far (p := ⟨go33, (x14_2 : Int).toNat, none⟩) (Kd.S_mono HO_595003.out (fun k_ hk => (⟨hk, fun e_ => hk (by rw [e_]; rfl)⟩ : _ ∧ k_ ≠ go33))) (fun _ hk => hk.2) (.int .i64 (rd (rd_L1 l0_3 x12_1) (ji29)))) (fun _ hk => hk.1)⟩, ⟨by (with_reducible repeat (first | refine bkN ?_ _ | refine bkd ?_ | refine bka ?_ _)); refine bkf ?_ (by have h_ := Kd.R_ne HO_13.out BK592.out (by decide); intro e_; exact h_ (by rw [e_]; rfl)) _; (with_reducible repeat (first | refine bkN ?_ _ | refine bkd ?_ | refine bka ?_ _)); exact BK592.out⟩, ⟨by (with_reducible repeat (first | refine bkN ?_ _ | refine bkd ?_ | refine bka ?_ _)); refine bkf ?_ (by have h_ := Kd.R_ne HO_13.out BK593.out (by decide); intro e_; exact h_ (by rw [e_]; rfl)) _; (with_reducible repeat (first | refine bkN ?_ _ | refine bkd ?_ | refine bka ?_ _)); exact BK593.out⟩, ⟨by (with_reducible repeat (first | refine bkN ?_ _ | refine bkd ?_ | refine bka ?_ _)); refine bkf ?_ (by have h_ := Kd.R_ne HO_13.out BK594.out (by decide); intro e_; exact h_ (by rw [e_]; rfl)) _; (with_reducible repeat (first | refine bkN ?_ _ | refine bkd ?_ | refine bka ?_ _)); exact BK594.out⟩, ⟨by repeat (first | (with_reducible first | exact HB.out | apply bwa | apply pwN | apply bwd | refine bws ?_ GB33.out | refine bws ?_ GE592.out | refine bws ?_ GE593.out | refine bws ?_ GE594.out) | exact HB.out)⟩⟩
                ·rw [if_neg c32] at H
                 exact absurd H (by simp)
               ·rw [if_neg c31] at H
                exact absurd H (by simp)
              ·rw [if_neg c30] at H
               exact absurd H (by simp)
             ·rw [if_neg c28] at H
              exact absurd H (by simp)
            ·rw [if_neg c27] at H
             exact absurd H (by simp)
           ·rw [if_neg c26] at H
            have c26b0 : decide ((wrap64 (a2 + (wrap64 (Int.tdiv x14_2 a3)))) < a0_1) = false := decide_eq_false c26
            clear c26
            have H' := As0.mk H
            clear H
            obtain ⟨Ao41, co41, eo41⟩ := Kd.R_slice HO_13.out
            subst eo41
            try go_wp2
            have n0_ := As0.mk (Kd.R_drew HO_13.out)
            have n1_ := As0.mk (Kd.S_drew HO_595003.out)
            have n2_ := As0.mk (bkd BK592.out)
            have n3_ := As0.mk (bkd BK593.out)
            have n4_ := As0.mk (bkd BK594.out)
            have n5_ := As0.mk (bwd HB.out)
            clear HO_13
            clear HO_595003
            clear BK592
            clear BK593
            clear BK594
            clear HB
            have HO_13 := n0_
            have HO_595003 := n1_
            have BK592 := n2_
            have BK593 := n3_
            have BK594 := n4_
            have HB := n5_
            clear n0_ n1_ n2_ n3_ n4_ n5_
            refine start_ (n := 12) (S := fun w' => True) (ds := []) #[false, false, false, false, false, false, false, false, false, false, false, false] (by kernel_rfl) rfl rfl trivial (fun hHeld => ?_); refine with_tabW l15_part.tab9 l15_part.bits9 (fun HT_ HW_ => ?_)
            generalize wr.drew = w42 at HO_13 HO_595003 BK592 BK593 BK594 HB hHeld ⊢
            refine pure_ (i := 0) (N := some 39) (v := ?_) (a' := ?_) #[true, false, false, false, false, false, false, false, false, false, false, false] rfl rfl (any_of HT_.out (by kernel_rfl)) (fun _ _ _ h => h) (Or.inl ⟨by rfl, ?_⟩) ?_ ?_
            rotate_left
            ·intro w'
             go_simp
             with_reducible rfl
            rotate_left
            ·simp only [Act.put, List.setIfInBounds_toArray, List.set_cons_zero, List.set_cons_succ, i64_w, i32_w]
             rfl
            refine pure_ (i := 1) (N := some 40) (v := ?_) (a' := ?_) #[true, true, false, false, false, false, false, false, false, false, false, false] rfl rfl (any_of HT_.out (by kernel_rfl)) (fun _ _ _ h => h) (Or.inl ⟨by rfl, ?_⟩) ?_ ?_
            rotate_left
            ·intro w'
             go_simp
             with_reducible rfl
            rotate_left
            ·simp only [Act.put, List.setIfInBounds_toArray, List.set_cons_zero, List.set_cons_succ, i64_w, i32_w]
             rfl
            refine pure_ (i := 2) (N := some 41) (v := ?_) (a' := ?_) #[true, true, true, false, false, false, false, false, false, false, false, false] rfl rfl (any_of HT_.out (by kernel_rfl)) (fun _ _ _ h => h) (Or.inl ⟨by rfl, ?_⟩) ?_ ?_
            rotate_left
            ·intro w'
             go_simp
             with_reducible rfl
            rotate_left
            ·simp only [Act.put, List.setIfInBounds_toArray, List.set_cons_zero, List.set_cons_succ, i64_w, i32_w]
             rfl
            refine pure_ (i := 3) (N := some 42) (v := ?_) (a' := ?_) #[true, true, true, true, false, false, false, false, false, false, false, false] rfl rfl (any_of HT_.out (by kernel_rfl)) (fun _ _ _ h => h) (Or.inl ⟨by rfl, ?_⟩) ?_ ?_
            rotate_left
            ·intro w'
             go_simp
             with_reducible rfl
            rotate_left
            ·simp only [Act.put, List.setIfInBounds_toArray, List.set_cons_zero, List.set_cons_succ, i64_w, i32_w]
             rfl
            refine pure_ (i := 4) (N := some 43) (v := ?_) (a' := ?_) #[true, true, true, true, true, false, false, false, false, false, false, false] rfl rfl (any_of HT_.out (by kernel_rfl)) (fun _ _ _ h => h) (Or.inl ⟨by rfl, ?_⟩) ?_ ?_
            rotate_left
            ·intro w'
             go_simp
             with_reducible rfl
            rotate_left
            ·simp only [Act.put, List.setIfInBounds_toArray, List.set_cons_zero, List.set_cons_succ, i64_w, i32_w]
             rfl
            refine pure_ (i := 5) (N := some 44) (v := ?_) (a' := ?_) #[true, true, true, true, true, true, false, false, false, false, false, false] rfl rfl (any_of HT_.out (by kernel_rfl)) (fun _ _ _ h => h) (Or.inl ⟨by rfl, ?_⟩) ?_ ?_
            rotate_left
            ·intro w'
             go_simp
             with_reducible rfl
            rotate_left
            ·simp only [Act.put, List.setIfInBounds_toArray, List.set_cons_zero, List.set_cons_succ, i64_w, i32_w]
             rfl
            refine pure_ (i := 6) (N := some 45) (v := ?_) (a' := ?_) #[true, true, true, true, true, true, true, false, false, false, false, false] rfl rfl (any_of HT_.out (by kernel_rfl)) (fun _ _ _ h => h) (Or.inl ⟨by rfl, ?_⟩) ?_ ?_
            rotate_left
            ·intro w'
             go_simp
             with_reducible rfl
            rotate_left
            ·simp only [Act.put, List.setIfInBounds_toArray, List.set_cons_zero, List.set_cons_succ, i64_w, i32_w]
             rfl
            refine pure_ (i := 7) (N := some 46) (v := ?_) (a' := ?_) #[true, true, true, true, true, true, true, true, false, false, false, false] rfl rfl (any_of HT_.out (by kernel_rfl)) (fun _ _ _ h => h) (Or.inl ⟨by rfl, ?_⟩) ?_ ?_
            rotate_left
            ·intro w'
             go_simp
             with_reducible rfl
            rotate_left
            ·simp only [Act.put, List.setIfInBounds_toArray, List.set_cons_zero, List.set_cons_succ, i64_w, i32_w]
             rfl
            refine pure_ (i := 8) (N := some 47) (v := ?_) (a' := ?_) #[true, true, true, true, true, true, true, true, true, false, false, false] rfl rfl (any_of HT_.out (by kernel_rfl)) (fun _ _ _ h => h) (Or.inl ⟨by rfl, ?_⟩) ?_ ?_
            rotate_left
            ·intro w'
             go_simp
             with_reducible rfl
            rotate_left
            ·simp only [Act.put, List.setIfInBounds_toArray, List.set_cons_zero, List.set_cons_succ, i64_w, i32_w]
             rfl
            refine pure_ (i := 9) (N := some 48) (v := ?_) (a' := ?_) #[true, true, true, true, true, true, true, true, true, true, false, false] rfl rfl (any_of HT_.out (by kernel_rfl)) (fun _ _ _ h => h) (Or.inl ⟨by rfl, ?_⟩) ?_ ?_
            rotate_left
            ·intro w'
             go_simp
             with_reducible rfl
            rotate_left
            ·simp only [Act.put, List.setIfInBounds_toArray, List.set_cons_zero, List.set_cons_succ, i64_w, i32_w]
             rfl
            refine pure_ (i := 10) (N := some 15) (v := ?_) (a' := ?_) #[true, true, true, true, true, true, true, true, true, true, true, false] rfl rfl (any_of HT_.out (by kernel_rfl)) (fun _ _ _ h => h) (Or.inl ⟨by rfl, ?_⟩) ?_ ?_
            rotate_left
            ·intro w'
             go_simp
             with_reducible rfl
            rotate_left
            ·simp only [Act.put, List.setIfInBounds_toArray, List.set_cons_zero, List.set_cons_succ, i64_w, i32_w]
             rfl
            refine pure_ (i := 11) (N := some 16) (v := ?_) (a' := ?_) #[true, true, true, true, true, true, true, true, true, true, true, true] rfl rfl (any_of HT_.out (by kernel_rfl)) (fun _ _ _ h => h) (Or.inl ⟨by rfl, ?_⟩) ?_ ?_
            rotate_left
            ·intro w'
             go_simp
             with_reducible rfl
            rotate_left
            ·simp only [Act.put, List.setIfInBounds_toArray, List.set_cons_zero, List.set_cons_succ, i64_w, i32_w]
             rfl
            refine done_ (done_of HT_.out (by kernel_rfl)) ?_
            have hnb43 := NB592_593.out
            have hnc43 := NB593_592.out
            have hnb44 := NB592_594.out
            have hnc44 := NB594_592.out
            have hcz45_0 : w42.cell? ⟨gb592, 0, none⟩ = some (.int .i64 a0_0) := (bkc BK592.out 0).trans rfl
            have hcz45_1 : w42.cell? ⟨gb592, 1, none⟩ = some (.int .i64 a0_1) := (bkc BK592.out 1).trans rfl
            have hcz45_2 : w42.cell? ⟨gb592, 2, none⟩ = some (.int .i64 a0_2) := (bkc BK592.out 2).trans rfl
            have hcz45_3 : w42.cell? ⟨gb592, 3, none⟩ = some (.slice A0_3 l0_3.length c0_3) := (bkc BK592.out 3).trans rfl
            have hfz45_0 := bkz BK592.out 0
            have hfz45_1 := bkz BK592.out 1
            have hfz45_2 := bkz BK592.out 2
            have hfz45_3 := bkz BK592.out 3
            try go_wp2
            go_roundg k2
            case measure => have := HK1.out; have := HK2.out; omega
            case rel => exact ⟨(x13_2), (wrap64 (x14_2 + 1)), (by first | rfl | (simp; done) | (simp [*]; done)), H', ⟨by have := HK1.out; have := HK2.out; omega⟩, ⟨by (with_reducible repeat (first | apply Kd.R_alloc | apply Kd.R_drewN | apply Kd.R_drew)); exact HO_13.out⟩, ⟨by (with_reducible repeat (first | apply Kd.S_alloc | apply Kd.S_drewN | apply Kd.S_drew)); exact HO_595003.out⟩, ⟨by (with_reducible repeat (first | refine bkN ?_ _ | refine bkd ?_ | refine bka ?_ _)); exact BK592.out⟩, ⟨by (with_reducible repeat (first | refine bkN ?_ _ | refine bkd ?_ | refine bka ?_ _)); exact BK593.out⟩, ⟨by (with_reducible repeat (first | refine bkN ?_ _ | refine bkd ?_ | refine bka ?_ _)); exact BK594.out⟩, ⟨by repeat (first | (with_reducible first | exact HB.out | apply bwa | apply pwN | apply bwd | refine bws ?_ GE592.out | refine bws ?_ GE593.out | refine bws ?_ GE594.out) | exact HB.out)⟩⟩
          ·rw [if_neg c25] at H
           have c25b0 : decide ((wrap64 (a1 + (Int.tmod x14_2 a3))) < a0_0) = false := decide_eq_false c25
           clear c25
           have H' := As0.mk H
           clear H
           obtain ⟨Ao46, co46, eo46⟩ := Kd.R_slice HO_13.out
           subst eo46
           try go_wp2
           have n0_ := As0.mk (Kd.R_drew HO_13.out)
           have n1_ := As0.mk (Kd.S_drew HO_595003.out)
           have n2_ := As0.mk (bkd BK592.out)
           have n3_ := As0.mk (bkd BK593.out)
           have n4_ := As0.mk (bkd BK594.out)
           have n5_ := As0.mk (bwd HB.out)
           clear HO_13
           clear HO_595003
           clear BK592
           clear BK593
           clear BK594
           clear HB
           have HO_13 := n0_
           have HO_595003 := n1_
           have BK592 := n2_
           have BK593 := n3_
           have BK594 := n4_
           have HB := n5_
           clear n0_ n1_ n2_ n3_ n4_ n5_
           refine start_ (n := 12) (S := fun w' => True) (ds := []) #[false, false, false, false, false, false, false, false, false, false, false, false] (by kernel_rfl) rfl rfl trivial (fun hHeld => ?_); refine with_tabW l15_part.tab9 l15_part.bits9 (fun HT_ HW_ => ?_)
           generalize wr.drew = w47 at HO_13 HO_595003 BK592 BK593 BK594 HB hHeld ⊢
           refine pure_ (i := 0) (N := some 39) (v := ?_) (a' := ?_) #[true, false, false, false, false, false, false, false, false, false, false, false] rfl rfl (any_of HT_.out (by kernel_rfl)) (fun _ _ _ h => h) (Or.inl ⟨by rfl, ?_⟩) ?_ ?_
           rotate_left
           ·intro w'
            go_simp
            with_reducible rfl
           rotate_left
           ·simp only [Act.put, List.setIfInBounds_toArray, List.set_cons_zero, List.set_cons_succ, i64_w, i32_w]
            rfl
           refine pure_ (i := 1) (N := some 40) (v := ?_) (a' := ?_) #[true, true, false, false, false, false, false, false, false, false, false, false] rfl rfl (any_of HT_.out (by kernel_rfl)) (fun _ _ _ h => h) (Or.inl ⟨by rfl, ?_⟩) ?_ ?_
           rotate_left
           ·intro w'
            go_simp
            with_reducible rfl
           rotate_left
           ·simp only [Act.put, List.setIfInBounds_toArray, List.set_cons_zero, List.set_cons_succ, i64_w, i32_w]
            rfl
           refine pure_ (i := 2) (N := some 41) (v := ?_) (a' := ?_) #[true, true, true, false, false, false, false, false, false, false, false, false] rfl rfl (any_of HT_.out (by kernel_rfl)) (fun _ _ _ h => h) (Or.inl ⟨by rfl, ?_⟩) ?_ ?_
           rotate_left
           ·intro w'
            go_simp
            with_reducible rfl
           rotate_left
           ·simp only [Act.put, List.setIfInBounds_toArray, List.set_cons_zero, List.set_cons_succ, i64_w, i32_w]
            rfl
           refine pure_ (i := 3) (N := some 42) (v := ?_) (a' := ?_) #[true, true, true, true, false, false, false, false, false, false, false, false] rfl rfl (any_of HT_.out (by kernel_rfl)) (fun _ _ _ h => h) (Or.inl ⟨by rfl, ?_⟩) ?_ ?_
           rotate_left
           ·intro w'
            go_simp
            with_reducible rfl
           rotate_left
           ·simp only [Act.put, List.setIfInBounds_toArray, List.set_cons_zero, List.set_cons_succ, i64_w, i32_w]
            rfl
           refine pure_ (i := 4) (N := some 43) (v := ?_) (a' := ?_) #[true, true, true, true, true, false, false, false, false, false, false, false] rfl rfl (any_of HT_.out (by kernel_rfl)) (fun _ _ _ h => h) (Or.inl ⟨by rfl, ?_⟩) ?_ ?_
           rotate_left
           ·intro w'
            go_simp
            with_reducible rfl
           rotate_left
           ·simp only [Act.put, List.setIfInBounds_toArray, List.set_cons_zero, List.set_cons_succ, i64_w, i32_w]
            rfl
           refine pure_ (i := 5) (N := some 44) (v := ?_) (a' := ?_) #[true, true, true, true, true, true, false, false, false, false, false, false] rfl rfl (any_of HT_.out (by kernel_rfl)) (fun _ _ _ h => h) (Or.inl ⟨by rfl, ?_⟩) ?_ ?_
           rotate_left
           ·intro w'
            go_simp
            with_reducible rfl
           rotate_left
           ·simp only [Act.put, List.setIfInBounds_toArray, List.set_cons_zero, List.set_cons_succ, i64_w, i32_w]
            rfl
           refine pure_ (i := 6) (N := some 45) (v := ?_) (a' := ?_) #[true, true, true, true, true, true, true, false, false, false, false, false] rfl rfl (any_of HT_.out (by kernel_rfl)) (fun _ _ _ h => h) (Or.inl ⟨by rfl, ?_⟩) ?_ ?_
           rotate_left
           ·intro w'
            go_simp
            with_reducible rfl
           rotate_left
           ·simp only [Act.put, List.setIfInBounds_toArray, List.set_cons_zero, List.set_cons_succ, i64_w, i32_w]
            rfl
           refine pure_ (i := 7) (N := some 46) (v := ?_) (a' := ?_) #[true, true, true, true, true, true, true, true, false, false, false, false] rfl rfl (any_of HT_.out (by kernel_rfl)) (fun _ _ _ h => h) (Or.inl ⟨by rfl, ?_⟩) ?_ ?_
           rotate_left
           ·intro w'
            go_simp
            with_reducible rfl
           rotate_left
           ·simp only [Act.put, List.setIfInBounds_toArray, List.set_cons_zero, List.set_cons_succ, i64_w, i32_w]
            rfl
           refine pure_ (i := 8) (N := some 47) (v := ?_) (a' := ?_) #[true, true, true, true, true, true, true, true, true, false, false, false] rfl rfl (any_of HT_.out (by kernel_rfl)) (fun _ _ _ h => h) (Or.inl ⟨by rfl, ?_⟩) ?_ ?_
           rotate_left
           ·intro w'
            go_simp
            with_reducible rfl
           rotate_left
           ·simp only [Act.put, List.setIfInBounds_toArray, List.set_cons_zero, List.set_cons_succ, i64_w, i32_w]
            rfl
           refine pure_ (i := 9) (N := some 48) (v := ?_) (a' := ?_) #[true, true, true, true, true, true, true, true, true, true, false, false] rfl rfl (any_of HT_.out (by kernel_rfl)) (fun _ _ _ h => h) (Or.inl ⟨by rfl, ?_⟩) ?_ ?_
           rotate_left
           ·intro w'
            go_simp
            with_reducible rfl
           rotate_left
           ·simp only [Act.put, List.setIfInBounds_toArray, List.set_cons_zero, List.set_cons_succ, i64_w, i32_w]
            rfl
           refine pure_ (i := 10) (N := some 15) (v := ?_) (a' := ?_) #[true, true, true, true, true, true, true, true, true, true, true, false] rfl rfl (any_of HT_.out (by kernel_rfl)) (fun _ _ _ h => h) (Or.inl ⟨by rfl, ?_⟩) ?_ ?_
           rotate_left
           ·intro w'
            go_simp
            with_reducible rfl
           rotate_left
           ·simp only [Act.put, List.setIfInBounds_toArray, List.set_cons_zero, List.set_cons_succ, i64_w, i32_w]
            rfl
           refine pure_ (i := 11) (N := some 16) (v := ?_) (a' := ?_) #[true, true, true, true, true, true, true, true, true, true, true, true] rfl rfl (any_of HT_.out (by kernel_rfl)) (fun _ _ _ h => h) (Or.inl ⟨by rfl, ?_⟩) ?_ ?_
           rotate_left
           ·intro w'
            go_simp
            with_reducible rfl
           rotate_left
           ·simp only [Act.put, List.setIfInBounds_toArray, List.set_cons_zero, List.set_cons_succ, i64_w, i32_w]
            rfl
           refine done_ (done_of HT_.out (by kernel_rfl)) ?_
           have hnb48 := NB592_593.out
           have hnc48 := NB593_592.out
           have hnb49 := NB592_594.out
           have hnc49 := NB594_592.out
           have hcz50_0 : w47.cell? ⟨gb592, 0, none⟩ = some (.int .i64 a0_0) := (bkc BK592.out 0).trans rfl
           have hcz50_1 : w47.cell? ⟨gb592, 1, none⟩ = some (.int .i64 a0_1) := (bkc BK592.out 1).trans rfl
           have hcz50_2 : w47.cell? ⟨gb592, 2, none⟩ = some (.int .i64 a0_2) := (bkc BK592.out 2).trans rfl
           have hcz50_3 : w47.cell? ⟨gb592, 3, none⟩ = some (.slice A0_3 l0_3.length c0_3) := (bkc BK592.out 3).trans rfl
           have hfz50_0 := bkz BK592.out 0
           have hfz50_1 := bkz BK592.out 1
           have hfz50_2 := bkz BK592.out 2
           have hfz50_3 := bkz BK592.out 3
           try go_wp2
           go_roundg k2
           case measure => have := HK1.out; have := HK2.out; omega
           case rel => exact ⟨(x13_2), (wrap64 (x14_2 + 1)), (by first | rfl | (simp; done) | (simp [*]; done)), H', ⟨by have := HK1.out; have := HK2.out; omega⟩, ⟨by (with_reducible repeat (first | apply Kd.R_alloc | apply Kd.R_drewN | apply Kd.R_drew)); exact HO_13.out⟩, ⟨by (with_reducible repeat (first | apply Kd.S_alloc | apply Kd.S_drewN | apply Kd.S_drew)); exact HO_595003.out⟩, ⟨by (with_reducible repeat (first | refine bkN ?_ _ | refine bkd ?_ | refine bka ?_ _)); exact BK592.out⟩, ⟨by (with_reducible repeat (first | refine bkN ?_ _ | refine bkd ?_ | refine bka ?_ _)); exact BK593.out⟩, ⟨by (with_reducible repeat (first | refine bkN ?_ _ | refine bkd ?_ | refine bka ?_ _)); exact BK594.out⟩, ⟨by repeat (first | (with_reducible first | exact HB.out | apply bwa | apply pwN | apply bwd | refine bws ?_ GE592.out | refine bws ?_ GE593.out | refine bws ?_ GE594.out) | exact HB.out)⟩⟩
        ·rw [if_neg c23] at H
         have c23b0 : decide (x14_2 < (x13_2.length : Int)) = false := decide_eq_false c23
         clear c23
         by_cases c51 : x595003_1.length < 5864062014805
         ·rw [if_pos c51] at H
          have LMc51 := As0.mk c51
          clear c51
          obtain ⟨y601, hy601⟩ : ∃ y_ : List (List Int), y_ = (x595003_1 ++ [x13_2]) := ⟨_, rfl⟩
          replace H : (l15_part.l0 k2 a1 a2 a3 a4 (wrap64 (x12_1 + 1)) a0_0 a0_1 a0_2 l0_3 a3 a4 a0_2 y601) = some (r1, r2, r3, r4) := by first | (rw [hy601]; with_reducible exact H) | (have H2_ := (Option.bind_some _ _).symm.trans H; rw [hy601]; with_reducible exact H2_) | (have H2_ := (Option.bind_some _ _).symm.trans H; with_reducible exact H2_) | with_reducible exact H | (rw [hy601]; exact H) | exact H
          have Ny601 := As0.mk hy601
          clear hy601
          have H' := As0.mk H
          clear H
          obtain ⟨Ao52, co52, eo52⟩ := Kd.R_slice HO_13.out
          subst eo52
          have hnb53 := NB594_592.out
          have hnc53 := NB592_594.out
          have hnb54 := NB594_593.out
          have hnc54 := NB593_594.out
          have hcz55_0 : wr.cell? ⟨gb594, 0, none⟩ = some (.int .i64 a3) := (bkc BK594.out 0).trans rfl
          have hcz55_1 : wr.cell? ⟨gb594, 1, none⟩ = some (.int .i64 a4) := (bkc BK594.out 1).trans rfl
          have hcz55_2 : wr.cell? ⟨gb594, 2, none⟩ = some (.int .i64 a0_2) := (bkc BK594.out 2).trans rfl
          have hcz55_3 : wr.cell? ⟨gb594, 3, none⟩ = some (u595003) := (bkc BK594.out 3).trans rfl
          have hfz55_0 := bkz BK594.out 0
          have hfz55_1 := bkz BK594.out 1
          have hfz55_2 := bkz BK594.out 2
          have hfz55_3 := bkz BK594.out 3
          go_wp2_with (first | ((with_reducible refine gate_builtin (b := .append) (xs := #[.tmp 76, .tmp 78]) rfl ?_); at_builtin; refine Kd.S_append (Kd.slice 3 (Kd.int .i64)) (w0 := w) w.heap.size rfl (.tmp 76) (.tmp 78) 22 39 (.slice none 0 0) 24 rfl Tryz.underlying22 info39 rfl (by decide) (by omega) u595003 x595003_1 x13_2 [.slice Ao52 x13_2.length co52] (fun _ => True) (fun k_ => some k_ = (.slice Ao52 x13_2.length co52 : Value).ownBlock) rfl rfl ?aP (fun k_ hk_ => ((Kd.R_mono (ok' := fun k_ => ((fun _ => True)) k_ ∧ some k_ ≠ (u595003 : Value).ownBlock) (Kd.R_apart' (HO_13.out) (Kd.S_typed HO_595003.out) (by decide)) (fun k_ hk => ⟨trivial, hk.2⟩))).1 k_ hk_.symm) ?aF ?aO ?aB ?aS ?aL ?_; (case aP => exact Kd.M_row (Kd.R_mono (Kd.R_tight rfl (Kd.R_mono (ok' := fun k_ => ((fun _ => True)) k_ ∧ some k_ ≠ (u595003 : Value).ownBlock) (Kd.R_apart' (HO_13.out) (Kd.S_typed HO_595003.out) (by decide)) (fun k_ hk => ⟨trivial, hk.2⟩))) (fun _ h_ => h_))); (case aB => exact (by repeat (first | (with_reducible first | exact HB.out | apply bwa | apply pwN | apply bwd | refine bws ?_ GE592.out | refine bws ?_ GE593.out | refine bws ?_ GE594.out) | exact HB.out))); (case aF => exact (fun _ _ => trivial)); (case aO => exact (by (with_reducible repeat (first | apply Kd.S_alloc | apply Kd.S_drewN | apply Kd.S_drew)); exact Kd.S_mono HO_595003.out (fun k_ hk => ⟨trivial, fun e_ => hk e_⟩))); (case aS => exact (bwz (by repeat (first | (with_reducible first | exact HB.out | apply bwa | apply pwN | apply bwd | refine bws ?_ GE592.out | refine bws ?_ GE593.out | refine bws ?_ GE594.out) | exact HB.out)))); (case aL => have := LMc51.out; omega); intro v602 w56 ho hb hg hat; rw [← Ny601.out] at ho; have n0_ := As0.mk (blk_grown (g := gb592) (o := .cells #[.int .i64 a0_0, .int .i64 a0_1, .int .i64 a0_2, .slice A0_3 l0_3.length c0_3] 24 (0, 0)) (by (with_reducible repeat (first | refine bkN ?_ _ | refine bkd ?_ | refine bka ?_ _)); exact BK592.out) hg (Kd.S_ne HO_595003.out BK592.out (by decide))); have n1_ := As0.mk (blk_grown (g := gb593) (o := .cells #[.int .i64 0, .int .i64 0, .int .i64 0, .slice none 0 0] 24 (0, 0)) (by (with_reducible repeat (first | refine bkN ?_ _ | refine bkd ?_ | refine bka ?_ _)); exact BK593.out) hg (Kd.S_ne HO_595003.out BK593.out (by decide))); have n2_ := As0.mk (blk_grown (g := gb594) (o := .cells #[.int .i64 a3, .int .i64 a4, .int .i64 a0_2, u595003] 24 (0, 0)) (by (with_reducible repeat (first | refine bkN ?_ _ | refine bkd ?_ | refine bka ?_ _)); exact BK594.out) hg (Kd.S_ne HO_595003.out BK594.out (by decide))); have n3_ := As0.mk (hb); have n4_ := As0.mk (ho); clear BK592; clear BK593; clear BK594; clear HB; clear HO_595003; clear HO_13; have BK592 := n0_; have BK593 := n1_; have BK594 := n2_; have HB := n3_; have HO603 := n4_; clear n0_ n1_ n2_ n3_ n4_; clear ho hb hg hat; obtain ⟨Ao57, co57, eo57⟩ := Kd.S_slice HO603.out; subst eo57; have hcz58_0 : w56.cell? ⟨gb594, 0, none⟩ = some (.int .i64 a3) := (bkc BK594.out 0).trans rfl; have hcz58_1 : w56.cell? ⟨gb594, 1, none⟩ = some (.int .i64 a4) := (bkc BK594.out 1).trans rfl; have hcz58_2 : w56.cell? ⟨gb594, 2, none⟩ = some (.int .i64 a0_2) := (bkc BK594.out 2).trans rfl; have hcz58_3 : w56.cell? ⟨gb594, 3, none⟩ = some (u595003) := (bkc BK594.out 3).trans rfl; have hfz58_0 := bkz BK594.out 0; have hfz58_1 := bkz BK594.out 1; have hfz58_2 := bkz BK594.out 2; have hfz58_3 := bkz BK594.out 3))
          go_roundg k2
          case measure => have := HK1.out; have := HK2.out; omega
          case rel => exact ⟨(wrap64 (x12_1 + 1)), (y601), (.slice Ao57 y601.length co57), (by first | rfl | (simp; done) | (simp [*]; done)), H', ⟨by have := HK1.out; have := HK2.out; omega⟩, ⟨by (with_reducible repeat (first | apply Kd.S_alloc | apply Kd.S_drewN | apply Kd.S_drew)); exact Kd.S_mono (Kd.S_far (p := ⟨gb594, 3, none⟩) (Kd.S_types HO603.out BK594.out (by decide)) (fun _ hk => hk.2) (.slice Ao57 y601.length co57)) (fun _ hk => trivial)⟩, ⟨by (with_reducible repeat (first | refine bkN ?_ _ | refine bkd ?_ | refine bka ?_ _)); refine bkf ?_ NB592_594.out _; (with_reducible repeat (first | refine bkN ?_ _ | refine bkd ?_ | refine bka ?_ _)); exact BK592.out⟩, ⟨by (with_reducible repeat (first | refine bkN ?_ _ | refine bkd ?_ | refine bka ?_ _)); refine bkf ?_ NB593_594.out _; (with_reducible repeat (first | refine bkN ?_ _ | refine bkd ?_ | refine bka ?_ _)); exact BK593.out⟩, ⟨by (with_reducible repeat (first | refine bkN ?_ _ | refine bkd ?_ | refine bka ?_ _)); refine blk_put (cs := #[.int .i64 a3, .int .i64 a4, .int .i64 a0_2, u595003]) ?_ 3 _ rfl; (with_reducible repeat (first | refine bkN ?_ _ | refine bkd ?_ | refine bka ?_ _)); exact BK594.out⟩, ⟨by repeat (first | (with_reducible first | exact HB.out | apply bwa | apply pwN | apply bwd | refine bws ?_ GE592.out | refine bws ?_ GE593.out | refine bws ?_ GE594.out) | exact HB.out)⟩⟩
         ·rw [if_neg c51] at H
          exact absurd H (by simp)
     ·rw [if_neg c17] at H
      exact absurd H (by simp)
    ·rw [if_neg c16] at H
     exact absurd H (by simp)
   ·rw [if_neg c14] at H
    have c14b0 : decide (x12_1 < (l0_3.length : Int)) = false := decide_eq_false c14
    clear c14
    simp only [Option.some.injEq, Prod.mk.injEq] at H
    obtain ⟨rfl, rfl, rfl, rfl⟩ := H
    have hnb59 := NB592_593.out
    have hnc59 := NB593_592.out
    have hnb60 := NB592_594.out
    have hnc60 := NB594_592.out
    have hcz61_0 : wr.cell? ⟨gb592, 0, none⟩ = some (.int .i64 a0_0) := (bkc BK592.out 0).trans rfl
    have hcz61_1 : wr.cell? ⟨gb592, 1, none⟩ = some (.int .i64 a0_1) := (bkc BK592.out 1).trans rfl
    have hcz61_2 : wr.cell? ⟨gb592, 2, none⟩ = some (.int .i64 a0_2) := (bkc BK592.out 2).trans rfl
    have hcz61_3 : wr.cell? ⟨gb592, 3, none⟩ = some (.slice A0_3 l0_3.length c0_3) := (bkc BK592.out 3).trans rfl
    have hfz61_0 := bkz BK592.out 0
    have hfz61_1 := bkz BK592.out 1
    have hfz61_2 := bkz BK592.out 2
    have hfz61_3 := bkz BK592.out 3
    have hnb62 := NB594_593.out
    have hnc62 := NB593_594.out
    have hcz63_0 : wr.cell? ⟨gb594, 0, none⟩ = some (.int .i64 a3) := (bkc BK594.out 0).trans rfl
    have hcz63_1 : wr.cell? ⟨gb594, 1, none⟩ = some (.int .i64 a4) := (bkc BK594.out 1).trans rfl
    have hcz63_2 : wr.cell? ⟨gb594, 2, none⟩ = some (.int .i64 a0_2) := (bkc BK594.out 2).trans rfl
    have hcz63_3 : wr.cell? ⟨gb594, 3, none⟩ = some (u595003) := (bkc BK594.out 3).trans rfl
    have hfz63_0 := bkz BK594.out 0
    have hfz63_1 := bkz BK594.out 1
    have hfz63_2 := bkz BK594.out 2
    have hfz63_3 := bkz BK594.out 3
    have hcz64_0 : wr.cell? ⟨gb593, 0, none⟩ = some (.int .i64 0) := (bkc BK593.out 0).trans rfl
    have hcz64_1 : wr.cell? ⟨gb593, 1, none⟩ = some (.int .i64 0) := (bkc BK593.out 1).trans rfl
    have hcz64_2 : wr.cell? ⟨gb593, 2, none⟩ = some (.int .i64 0) := (bkc BK593.out 2).trans rfl
    have hcz64_3 : wr.cell? ⟨gb593, 3, none⟩ = some (.slice none 0 0) := (bkc BK593.out 3).trans rfl
    have hfz64_0 := bkz BK593.out 0
    have hfz64_1 := bkz BK593.out 1
    have hfz64_2 := bkz BK593.out 2
    have hfz64_3 := bkz BK593.out 3
    obtain ⟨Ao65, co65, eo65⟩ := Kd.S_slice HO_595003.out
    subst eo65
    go_wp2
    refine bodyPost_ret (results_cell_row rfl _ _ gb593 24 #[.int .i64 a3, .int .i64 a4, .int .i64 a0_2, .slice Ao65 x595003_1.length co65] (0, 0) _ rfl (by (with_reducible repeat (first | refine bkN ?_ _ | refine bkd ?_ | refine bka ?_ _)); refine blk_put (cs := #[.int .i64 a3, .int .i64 a4, .int .i64 a0_2, .slice none 0 0]) ?_ 3 _ rfl; (with_reducible repeat (first | refine bkN ?_ _ | refine bkd ?_ | refine bka ?_ _)); refine blk_put (cs := #[.int .i64 a3, .int .i64 a4, .int .i64 0, .slice none 0 0]) ?_ 2 _ rfl; (with_reducible repeat (first | refine bkN ?_ _ | refine bkd ?_ | refine bka ?_ _)); refine blk_put (cs := #[.int .i64 a3, .int .i64 0, .int .i64 0, .slice none 0 0]) ?_ 1 _ rfl; (with_reducible repeat (first | refine bkN ?_ _ | refine bkd ?_ | refine bka ?_ _)); refine blk_put (cs := #[.int .i64 0, .int .i64 0, .int .i64 0, .slice none 0 0]) ?_ 0 _ rfl; (with_reducible repeat (first | refine bkN ?_ _ | refine bkd ?_ | refine bka ?_ _)); exact BK593.out) Tryz.underlying24 rfl (by kernel_rfl)) rfl ?_
    exact ⟨_, by first | rfl | (simp [errW_none, errW_some] <;> rfl) | (simp [*, errW_none, errW_some] <;> rfl), by (with_reducible repeat (first | apply Kd.S_alloc | apply Kd.S_drewN | apply Kd.S_drew)); exact Kd.S_mono (Kd.S_far (p := ⟨gb593, 3, none⟩) (Kd.S_far (p := ⟨gb593, 2, none⟩) (Kd.S_far (p := ⟨gb593, 1, none⟩) (Kd.S_far (p := ⟨gb593, 0, none⟩) (Kd.S_types HO_595003.out BK593.out (by decide)) (fun _ hk => hk.2) (.int .i64 a3)) (fun _ hk => hk.2) (.int .i64 a4)) (fun _ hk => hk.2) (.int .i64 a0_2)) (fun _ hk => hk.2) (.slice Ao65 x595003_1.length co65)) (fun _ hk => trivial), by repeat (first | (with_reducible first | exact HB.out | apply bwa | apply pwN | apply bwd | refine bws ?_ GE592.out | refine bws ?_ GE593.out | refine bws ?_ GE594.out) | exact HB.out)⟩
mutual
def l15_ItemParts.j0 : Nat → Int → Int → Bool → Int → Int → Int → List (List Int) → Option (Bool)
 | 0, _, _, _, _, _, _, _ => none
 | k + 1, x1, x2, x23, x605000, x605001, x605002, x605003 => if x23 = true then ((l15_awake.f k).bind fun t607 => (some t607)) else (if x605000 = 0 then (none) else (if x605001 = 0 then (none) else (if (wrap64 ((Int.tmod (wrap64 (x1)) x605000) + 1)) = 0 then (none) else (if (wrap64 ((Int.tmod (wrap64 (x2)) x605001) + 1)) = 0 then (none) else (if (wrap64 (Int.tdiv (wrap64 ((wrap64 (x605000 + (wrap64 ((Int.tmod (wrap64 (x1)) x605000) + 1)))) - 1)) (wrap64 ((Int.tmod (wrap64 (x1)) x605000) + 1)))) > 8 then (l15_ItemParts.j1 k (wrap64 ((Int.tmod (wrap64 (x1)) x605000) + 1)) (wrap64 ((Int.tmod (wrap64 (x2)) x605001) + 1)) (wrap64 (Int.tdiv (wrap64 ((wrap64 (x605000 + (wrap64 ((Int.tmod (wrap64 (x1)) x605000) + 1)))) - 1)) (wrap64 ((Int.tmod (wrap64 (x1)) x605000) + 1)))) (wrap64 (Int.tdiv (wrap64 ((wrap64 (x605001 + (wrap64 ((Int.tmod (wrap64 (x2)) x605001) + 1)))) - 1)) (wrap64 ((Int.tmod (wrap64 (x2)) x605001) + 1)))) true x605000 x605001 x605002 x605003) else (l15_ItemParts.j1 k (wrap64 ((Int.tmod (wrap64 (x1)) x605000) + 1)) (wrap64 ((Int.tmod (wrap64 (x2)) x605001) + 1)) (wrap64 (Int.tdiv (wrap64 ((wrap64 (x605000 + (wrap64 ((Int.tmod (wrap64 (x1)) x605000) + 1)))) - 1)) (wrap64 ((Int.tmod (wrap64 (x1)) x605000) + 1)))) (wrap64 (Int.tdiv (wrap64 ((wrap64 (x605001 + (wrap64 ((Int.tmod (wrap64 (x2)) x605001) + 1)))) - 1)) (wrap64 ((Int.tmod (wrap64 (x2)) x605001) + 1)))) (decide ((wrap64 (Int.tdiv (wrap64 ((wrap64 (x605001 + (wrap64 ((Int.tmod (wrap64 (x2)) x605001) + 1)))) - 1)) (wrap64 ((Int.tmod (wrap64 (x2)) x605001) + 1)))) > 8)) x605000 x605001 x605002 x605003))))))
def l15_ItemParts.j1 : Nat → Int → Int → Int → Int → Bool → Int → Int → Int → List (List Int) → Option (Bool)
 | 0, _, _, _, _, _, _, _, _, _ => none
 | k + 1, x7, x8, x9, x10, x56, x605000, x605001, x605002, x605003 => if x56 = true then ((l15_awake.f k).bind fun t608 => (some t608)) else (l15_ItemParts.l0 k x7 x8 x9 x10 ([] : List (S24)) 0 x605000 x605001 x605002 x605003)
def l15_ItemParts.l0 : Nat → Int → Int → Int → Int → List (S24) → Int → Int → Int → Int → List (List Int) → Option (Bool)
 | 0, _, _, _, _, _, _, _, _, _, _ => none
 | k + 1, x7, x8, x9, x10, x11, x12, x605000, x605001, x605002, x605003 => if x12 < x10 then (l15_ItemParts.l1 k x7 x8 x9 x10 x11 x12 0 x605000 x605001 x605002 x605003) else ((item_Grid.f k x11 x10 x9 x605000 x605001).bind fun bt609 => (if bt609.2.2.2.2 = 0 then ((r00_EqImage.f k bt609.1 bt609.2.1 bt609.2.2.1 bt609.2.2.2.1 x605000 x605001 x605002 x605003).bind fun t617 => (if t617 = true then ((l15_awake.f k).bind fun t618 => (some t618)) else (some false))) else (some false)))
def l15_ItemParts.l1 : Nat → Int → Int → Int → Int → List (S24) → Int → Int → Int → Int → Int → List (List Int) → Option (Bool)
 | 0, _, _, _, _, _, _, _, _, _, _, _ => none
 | k + 1, x7, x8, x9, x10, x11, x12, x13, x605000, x605001, x605002, x605003 => if x13 < x9 then ((l15_part.f k x605000 x605001 x605002 x605003 (wrap64 (x13 * x7)) (wrap64 (x12 * x8)) x7 x8).bind fun bt619 => (if x11.length < 2932031007402 then (l15_ItemParts.l1 k x7 x8 x9 x10 (x11 ++ [(⟨bt619.1, bt619.2.1, bt619.2.2.1, bt619.2.2.2⟩ : S24)]) x12 (wrap64 (x13 + 1)) x605000 x605001 x605002 x605003) else (none))) else (l15_ItemParts.l0 k x7 x8 x9 x10 x11 (wrap64 (x12 + 1)) x605000 x605001 x605002 x605003)
end
def l15_ItemParts.f (k : Nat) (a0_0 : Int) (a0_1 : Int) (a0_2 : Int) (l0_3 : List (List Int)) (a1 : Int) (a2 : Int) : Option (Bool) := (l15_plain.f k a0_0 a0_1 a0_2 l0_3).bind fun t605 => (if t605 = true then ((r14_Check.f k a0_0 a0_1 a0_2 l0_3).bind fun t606 => (l15_ItemParts.j0 k a1 a2 (t606 != 0) a0_0 a0_1 a0_2 l0_3)) else (l15_ItemParts.j0 k a1 a2 true a0_0 a0_1 a0_2 l0_3))
set_option maxHeartbeats 8000000 in
set_option maxRecDepth 100000 in
theorem l15_ItemParts.calls (k : Nat) (a0_0 : Int) (a0_1 : Int) (a0_2 : Int) (A0_3 : Option Addr) (c0_3 : Nat) (l0_3 : List (List Int)) (a1 : Int) (a2 : Int) (r : Bool) (w : World) (hr0_3 : Kd.C (Kd.slice 3 (Kd.int .i64)) w A0_3 l0_3.length l0_3) (hc0_3 : l0_3.length ≤ c0_3) (h : l15_ItemParts.f k a0_0 a0_1 a0_2 l0_3 a1 a2 = some r) :
  Calls Tryz.prog 7 #[.agg #[.int .i64 a0_0, .int .i64 a0_1, .int .i64 a0_2, .slice A0_3 l0_3.length c0_3], .int .u8 a1, .int .u8 a2] w fun e w' => e = .returned (.bool r) ∧ Below w.heap.size w w' := by
 have hu24 := Tryz.underlying24
 have HR0_3 := As0.mk hr0_3
 have HC0_3 := As0.mk hc0_3
 clear hr0_3 hc0_3
 have HB := As0.mk (Below.refl w.heap.size w)
 have H : ((l15_plain.f k a0_0 a0_1 a0_2 l0_3).bind fun t605 => (if t605 = true then ((r14_Check.f k a0_0 a0_1 a0_2 l0_3).bind fun t606 => (l15_ItemParts.j0 k a1 a2 (t606 != 0) a0_0 a0_1 a0_2 l0_3)) else (l15_ItemParts.j0 k a1 a2 true a0_0 a0_1 a0_2 l0_3))) = some r := h
 clear h
 have HC4 := As0.mk H
 clear H
 go_enter Tryz.func7, Tryz.ntmps7
 go_upto_region 1 with (first | ((with_reducible refine gdt (N := 3) rfl ?_); refine bxe ?hg (N := 3) ?hd (cs := #[.int .i64 a0_0, .int .i64 a0_1, .int .i64 a0_2, .slice A0_3 l0_3.length c0_3]) (t := 24) ?hr ?_; (case hd => rfl); (case hg => rfl); (case hr => first | (go_simp; done) | (go_simp; rfl)); intro gb604 hg w5 hbox hb; have n0_ := As0.mk (bwp (by repeat (first | (with_reducible first | exact HB.out | apply bwa | apply pwN | apply bwd) | exact HB.out)) hb); have n1_ := As0.mk (hbox); have n2_ := As0.mk ((by rw [hg]; exact (bwz (by repeat (first | (with_reducible first | exact HB.out | apply bwa | apply pwN | apply bwd) | exact HB.out))) : w.heap.size ≤ gb604)); have n3_ := As0.mk ((by rw [hg]; exact (bwz (by repeat (first | (with_reducible first | exact HB.out | apply bwa | apply pwN | apply bwd) | exact HB.out))) : w.heap.size ≤ gb604)); clear HB; have HB := n0_; have BK604 := n1_; have GW604 := n2_; have GE604 := n3_; clear n0_ n1_ n2_ n3_; clear hb hbox hg))
 repeat (go_quiet (first | ((with_reducible refine gdt (N := 3) rfl ?_); refine bxe ?hg (N := 3) ?hd (cs := #[.int .i64 a0_0, .int .i64 a0_1, .int .i64 a0_2, .slice A0_3 l0_3.length c0_3]) (t := 24) ?hr ?_; (case hd => rfl); (case hg => rfl); (case hr => first | (go_simp; done) | (go_simp; rfl)); intro gb604 hg w5 hbox hb; have n0_ := As0.mk (bwp (by repeat (first | (with_reducible first | exact HB.out | apply bwa | apply pwN | apply bwd) | exact HB.out)) hb); have n1_ := As0.mk (hbox); have n2_ := As0.mk ((by rw [hg]; exact (bwz (by repeat (first | (with_reducible first | exact HB.out | apply bwa | apply pwN | apply bwd) | exact HB.out))) : w.heap.size ≤ gb604)); have n3_ := As0.mk ((by rw [hg]; exact (bwz (by repeat (first | (with_reducible first | exact HB.out | apply bwa | apply pwN | apply bwd) | exact HB.out))) : w.heap.size ≤ gb604)); clear HB; have HB := n0_; have BK604 := n1_; have GW604 := n2_; have GE604 := n3_; clear n0_ n1_ n2_ n3_; clear hb hbox hg)); go_upto_region 1 with (first | ((with_reducible refine gdt (N := 3) rfl ?_); refine bxe ?hg (N := 3) ?hd (cs := #[.int .i64 a0_0, .int .i64 a0_1, .int .i64 a0_2, .slice A0_3 l0_3.length c0_3]) (t := 24) ?hr ?_; (case hd => rfl); (case hg => rfl); (case hr => first | (go_simp; done) | (go_simp; rfl)); intro gb604 hg w5 hbox hb; have n0_ := As0.mk (bwp (by repeat (first | (with_reducible first | exact HB.out | apply bwa | apply pwN | apply bwd) | exact HB.out)) hb); have n1_ := As0.mk (hbox); have n2_ := As0.mk ((by rw [hg]; exact (bwz (by repeat (first | (with_reducible first | exact HB.out | apply bwa | apply pwN | apply bwd) | exact HB.out))) : w.heap.size ≤ gb604)); have n3_ := As0.mk ((by rw [hg]; exact (bwz (by repeat (first | (with_reducible first | exact HB.out | apply bwa | apply pwN | apply bwd) | exact HB.out))) : w.heap.size ≤ gb604)); clear HB; have HB := n0_; have BK604 := n1_; have GW604 := n2_; have GE604 := n3_; clear n0_ n1_ n2_ n3_; clear hb hbox hg)))
 (try simp only [Act.put, List.setIfInBounds_toArray, List.set_cons_zero, List.set_cons_succ])
 go_cut [23] (fun v23 wc => ∃ (kq : Nat) (x23_3 : Bool), v23 = .bool x23_3 ∧ As0 (l15_ItemParts.j0 kq a1 a2 x23_3 a0_0 a0_1 a0_2 l0_3 = some r) ∧ As0 (kq ≤ k) ∧ As0 (wc.heap[gb604]? = some (.cells #[.int .i64 a0_0, .int .i64 a0_1, .int .i64 a0_2, (.slice A0_3 l0_3.length c0_3)] 24 (0, 0))) ∧ As0 (Below w.heap.size w wc))
 case first =>
  have H := HC4.out
  clear HC4
  replace H := Option.bind_eq_some_iff.mp H
  obtain ⟨t605, A60, H⟩ := H
  replace H : (if t605 = true then ((r14_Check.f k a0_0 a0_1 a0_2 l0_3).bind fun t606 => (l15_ItemParts.j0 k a1 a2 (t606 != 0) a0_0 a0_1 a0_2 l0_3)) else (l15_ItemParts.j0 k a1 a2 true a0_0 a0_1 a0_2 l0_3)) = some r := H
  have A6 := As0.mk A60
  clear A60
  by_cases c7 : t605 = true
  ·subst c7
   have H1 : ((r14_Check.f k a0_0 a0_1 a0_2 l0_3).bind fun t606 => (l15_ItemParts.j0 k a1 a2 (t606 != 0) a0_0 a0_1 a0_2 l0_3)) = some r := by rw [if_pos rfl] at H; exact H
   clear H
   have H := H1
   clear H1
   replace H := Option.bind_eq_some_iff.mp H
   obtain ⟨t606, A80, H⟩ := H
   replace H : (l15_ItemParts.j0 k a1 a2 (t606 != 0) a0_0 a0_1 a0_2 l0_3) = some r := H
   have A8 := As0.mk A80
   clear A80
   have H' := As0.mk H
   clear H
   have hcz9_0 : w5.cell? ⟨gb604, 0, none⟩ = some (.int .i64 a0_0) := (bkc BK604.out 0).trans rfl
   have hcz9_1 : w5.cell? ⟨gb604, 1, none⟩ = some (.int .i64 a0_1) := (bkc BK604.out 1).trans rfl
   have hcz9_2 : w5.cell? ⟨gb604, 2, none⟩ = some (.int .i64 a0_2) := (bkc BK604.out 2).trans rfl
   have hcz9_3 : w5.cell? ⟨gb604, 3, none⟩ = some (.slice A0_3 l0_3.length c0_3) := (bkc BK604.out 3).trans rfl
   have hfz9_0 := bkz BK604.out 0
   have hfz9_1 := bkz BK604.out 1
   have hfz9_2 := bkz BK604.out 2
   have hfz9_3 := bkz BK604.out 3
   go_wp2_with (first | (go_at_call 12; (with_reducible refine (l15_plain.calls k a0_0 a0_1 a0_2 _ _ l0_3 true _ ?side1 ?side2 A6.out).mono ?_); (case side1 => repeat (first | exact (Kd.C_below HR0_3.out HB.out) | (with_reducible refine Kd.C_alloc ?_ _) | (with_reducible refine Kd.C_drewN ?_ _) | (with_reducible refine Kd.C_drew ?_))); (case side2 => exact HC0_3.out); rintro e w10 ⟨rfl, hb⟩; have n0_ := As0.mk (bkb (g := gb604) (o := .cells #[.int .i64 a0_0, .int .i64 a0_1, .int .i64 a0_2, .slice A0_3 l0_3.length c0_3] 24 (0, 0)) (by (with_reducible repeat (first | refine bkN ?_ _ | refine bkd ?_ | refine bka ?_ _)); exact BK604.out) hb); have n1_ := As0.mk (bwp (by repeat (first | (with_reducible first | exact HB.out | apply bwa | apply pwN | apply bwd | refine bws ?_ GE604.out) | exact HB.out)) hb); clear BK604; clear HB; have BK604 := n0_; have HB := n1_; clear n0_ n1_; (try clear hb); (try clear hb2); (try clear hk); (try clear hi); have hcz11_0 : w10.cell? ⟨gb604, 0, none⟩ = some (.int .i64 a0_0) := (bkc BK604.out 0).trans rfl; have hcz11_1 : w10.cell? ⟨gb604, 1, none⟩ = some (.int .i64 a0_1) := (bkc BK604.out 1).trans rfl; have hcz11_2 : w10.cell? ⟨gb604, 2, none⟩ = some (.int .i64 a0_2) := (bkc BK604.out 2).trans rfl; have hcz11_3 : w10.cell? ⟨gb604, 3, none⟩ = some (.slice A0_3 l0_3.length c0_3) := (bkc BK604.out 3).trans rfl; have hfz11_0 := bkz BK604.out 0; have hfz11_1 := bkz BK604.out 1; have hfz11_2 := bkz BK604.out 2; have hfz11_3 := bkz BK604.out 3) | (go_at_call 30; (with_reducible refine (r14_Check.calls k a0_0 a0_1 a0_2 _ _ l0_3 t606 _ ?side1 ?side2 A8.out).mono ?_); (case side1 => repeat (first | exact (Kd.C_below HR0_3.out HB.out) | (with_reducible refine Kd.C_alloc ?_ _) | (with_reducible refine Kd.C_drewN ?_ _) | (with_reducible refine Kd.C_drew ?_))); (case side2 => exact HC0_3.out); rintro e w12 ⟨rfl, hb⟩; have n0_ := As0.mk (bkb (g := gb604) (o := .cells #[.int .i64 a0_0, .int .i64 a0_1, .int .i64 a0_2, .slice A0_3 l0_3.length c0_3] 24 (0, 0)) (by (with_reducible repeat (first | refine bkN ?_ _ | refine bkd ?_ | refine bka ?_ _)); exact BK604.out) hb); have n1_ := As0.mk (bwp (by repeat (first | (with_reducible first | exact HB.out | apply bwa | apply pwN | apply bwd | refine bws ?_ GE604.out) | exact HB.out)) hb); clear BK604; clear HB; have BK604 := n0_; have HB := n1_; clear n0_ n1_; (try clear hb); (try clear hb2); (try clear hk); (try clear hi)))
   repeat (go_quiet (first | (go_at_call 12; (with_reducible refine (l15_plain.calls k a0_0 a0_1 a0_2 _ _ l0_3 true _ ?side1 ?side2 A6.out).mono ?_); (case side1 => repeat (first | exact (Kd.C_below HR0_3.out HB.out) | (with_reducible refine Kd.C_alloc ?_ _) | (with_reducible refine Kd.C_drewN ?_ _) | (with_reducible refine Kd.C_drew ?_))); (case side2 => exact HC0_3.out); rintro e w10 ⟨rfl, hb⟩; have n0_ := As0.mk (bkb (g := gb604) (o := .cells #[.int .i64 a0_0, .int .i64 a0_1, .int .i64 a0_2, .slice A0_3 l0_3.length c0_3] 24 (0, 0)) (by (with_reducible repeat (first | refine bkN ?_ _ | refine bkd ?_ | refine bka ?_ _)); exact BK604.out) hb); have n1_ := As0.mk (bwp (by repeat (first | (with_reducible first | exact HB.out | apply bwa | apply pwN | apply bwd | refine bws ?_ GE604.out) | exact HB.out)) hb); clear BK604; clear HB; have BK604 := n0_; have HB := n1_; clear n0_ n1_; (try clear hb); (try clear hb2); (try clear hk); (try clear hi); have hcz11_0 : w10.cell? ⟨gb604, 0, none⟩ = some (.int .i64 a0_0) := (bkc BK604.out 0).trans rfl; have hcz11_1 : w10.cell? ⟨gb604, 1, none⟩ = some (.int .i64 a0_1) := (bkc BK604.out 1).trans rfl; have hcz11_2 : w10.cell? ⟨gb604, 2, none⟩ = some (.int .i64 a0_2) := (bkc BK604.out 2).trans rfl; have hcz11_3 : w10.cell? ⟨gb604, 3, none⟩ = some (.slice A0_3 l0_3.length c0_3) := (bkc BK604.out 3).trans rfl; have hfz11_0 := bkz BK604.out 0; have hfz11_1 := bkz BK604.out 1; have hfz11_2 := bkz BK604.out 2; have hfz11_3 := bkz BK604.out 3) | (go_at_call 30; (with_reducible refine (r14_Check.calls k a0_0 a0_1 a0_2 _ _ l0_3 t606 _ ?side1 ?side2 A8.out).mono ?_); (case side1 => repeat (first | exact (Kd.C_below HR0_3.out HB.out) | (with_reducible refine Kd.C_alloc ?_ _) | (with_reducible refine Kd.C_drewN ?_ _) | (with_reducible refine Kd.C_drew ?_))); (case side2 => exact HC0_3.out); rintro e w12 ⟨rfl, hb⟩; have n0_ := As0.mk (bkb (g := gb604) (o := .cells #[.int .i64 a0_0, .int .i64 a0_1, .int .i64 a0_2, .slice A0_3 l0_3.length c0_3] 24 (0, 0)) (by (with_reducible repeat (first | refine bkN ?_ _ | refine bkd ?_ | refine bka ?_ _)); exact BK604.out) hb); have n1_ := As0.mk (bwp (by repeat (first | (with_reducible first | exact HB.out | apply bwa | apply pwN | apply bwd | refine bws ?_ GE604.out) | exact HB.out)) hb); clear BK604; clear HB; have BK604 := n0_; have HB := n1_; clear n0_ n1_; (try clear hb); (try clear hb2); (try clear hk); (try clear hi))); try go_wp2_with (first | (go_at_call 12; (with_reducible refine (l15_plain.calls k a0_0 a0_1 a0_2 _ _ l0_3 true _ ?side1 ?side2 A6.out).mono ?_); (case side1 => repeat (first | exact (Kd.C_below HR0_3.out HB.out) | (with_reducible refine Kd.C_alloc ?_ _) | (with_reducible refine Kd.C_drewN ?_ _) | (with_reducible refine Kd.C_drew ?_))); (case side2 => exact HC0_3.out); rintro e w10 ⟨rfl, hb⟩; have n0_ := As0.mk (bkb (g := gb604) (o := .cells #[.int .i64 a0_0, .int .i64 a0_1, .int .i64 a0_2, .slice A0_3 l0_3.length c0_3] 24 (0, 0)) (by (with_reducible repeat (first | refine bkN ?_ _ | refine bkd ?_ | refine bka ?_ _)); exact BK604.out) hb); have n1_ := As0.mk (bwp (by repeat (first | (with_reducible first | exact HB.out | apply bwa | apply pwN | apply bwd | refine bws ?_ GE604.out) | exact HB.out)) hb); clear BK604; clear HB; have BK604 := n0_; have HB := n1_; clear n0_ n1_; (try clear hb); (try clear hb2); (try clear hk); (try clear hi); have hcz11_0 : w10.cell? ⟨gb604, 0, none⟩ = some (.int .i64 a0_0) := (bkc BK604.out 0).trans rfl; have hcz11_1 : w10.cell? ⟨gb604, 1, none⟩ = some (.int .i64 a0_1) := (bkc BK604.out 1).trans rfl; have hcz11_2 : w10.cell? ⟨gb604, 2, none⟩ = some (.int .i64 a0_2) := (bkc BK604.out 2).trans rfl; have hcz11_3 : w10.cell? ⟨gb604, 3, none⟩ = some (.slice A0_3 l0_3.length c0_3) := (bkc BK604.out 3).trans rfl; have hfz11_0 := bkz BK604.out 0; have hfz11_1 := bkz BK604.out 1; have hfz11_2 := bkz BK604.out 2; have hfz11_3 := bkz BK604.out 3) | (go_at_call 30; (with_reducible refine (r14_Check.calls k a0_0 a0_1 a0_2 _ _ l0_3 t606 _ ?side1 ?side2 A8.out).mono ?_); (case side1 => repeat (first | exact (Kd.C_below HR0_3.out HB.out) | (with_reducible refine Kd.C_alloc ?_ _) | (with_reducible refine Kd.C_drewN ?_ _) | (with_reducible refine Kd.C_drew ?_))); (case side2 => exact HC0_3.out); rintro e w12 ⟨rfl, hb⟩; have n0_ := As0.mk (bkb (g := gb604) (o := .cells #[.int .i64 a0_0, .int .i64 a0_1, .int .i64 a0_2, .slice A0_3 l0_3.length c0_3] 24 (0, 0)) (by (with_reducible repeat (first | refine bkN ?_ _ | refine bkd ?_ | refine bka ?_ _)); exact BK604.out) hb); have n1_ := As0.mk (bwp (by repeat (first | (with_reducible first | exact HB.out | apply bwa | apply pwN | apply bwd | refine bws ?_ GE604.out) | exact HB.out)) hb); clear BK604; clear HB; have BK604 := n0_; have HB := n1_; clear n0_ n1_; (try clear hb); (try clear hb2); (try clear hk); (try clear hi))))
   go_meet
   case rel => exact ⟨_, ((t606 != 0)), (by first | rfl | (simp; done) | (simp [*]; done)), H', ⟨by first | omega | exact Nat.le_refl _⟩, ⟨by (with_reducible repeat (first | refine bkN ?_ _ | refine bkd ?_ | refine bka ?_ _)); exact BK604.out⟩, ⟨by repeat (first | (with_reducible first | exact HB.out | apply bwa | apply pwN | apply bwd | refine bws ?_ GE604.out) | exact HB.out)⟩⟩
  ·replace c7 := Bool.eq_false_iff.mpr c7
   subst c7
   have H1 : (l15_ItemParts.j0 k a1 a2 true a0_0 a0_1 a0_2 l0_3) = some r := by rw [if_neg (show ¬ (false = true) by decide)] at H; exact H
   clear H
   have H := H1
   clear H1
   have H' := As0.mk H
   clear H
   have hcz13_0 : w5.cell? ⟨gb604, 0, none⟩ = some (.int .i64 a0_0) := (bkc BK604.out 0).trans rfl
   have hcz13_1 : w5.cell? ⟨gb604, 1, none⟩ = some (.int .i64 a0_1) := (bkc BK604.out 1).trans rfl
   have hcz13_2 : w5.cell? ⟨gb604, 2, none⟩ = some (.int .i64 a0_2) := (bkc BK604.out 2).trans rfl
   have hcz13_3 : w5.cell? ⟨gb604, 3, none⟩ = some (.slice A0_3 l0_3.length c0_3) := (bkc BK604.out 3).trans rfl
   have hfz13_0 := bkz BK604.out 0
   have hfz13_1 := bkz BK604.out 1
   have hfz13_2 := bkz BK604.out 2
   have hfz13_3 := bkz BK604.out 3
   go_wp2_with (first | (go_at_call 12; (with_reducible refine (l15_plain.calls k a0_0 a0_1 a0_2 _ _ l0_3 false _ ?side1 ?side2 A6.out).mono ?_); (case side1 => repeat (first | exact (Kd.C_below HR0_3.out HB.out) | (with_reducible refine Kd.C_alloc ?_ _) | (with_reducible refine Kd.C_drewN ?_ _) | (with_reducible refine Kd.C_drew ?_))); (case side2 => exact HC0_3.out); rintro e w14 ⟨rfl, hb⟩; have n0_ := As0.mk (bkb (g := gb604) (o := .cells #[.int .i64 a0_0, .int .i64 a0_1, .int .i64 a0_2, .slice A0_3 l0_3.length c0_3] 24 (0, 0)) (by (with_reducible repeat (first | refine bkN ?_ _ | refine bkd ?_ | refine bka ?_ _)); exact BK604.out) hb); have n1_ := As0.mk (bwp (by repeat (first | (with_reducible first | exact HB.out | apply bwa | apply pwN | apply bwd | refine bws ?_ GE604.out) | exact HB.out)) hb); clear BK604; clear HB; have BK604 := n0_; have HB := n1_; clear n0_ n1_; (try clear hb); (try clear hb2); (try clear hk); (try clear hi)))
   repeat (go_quiet (first | (go_at_call 12; (with_reducible refine (l15_plain.calls k a0_0 a0_1 a0_2 _ _ l0_3 false _ ?side1 ?side2 A6.out).mono ?_); (case side1 => repeat (first | exact (Kd.C_below HR0_3.out HB.out) | (with_reducible refine Kd.C_alloc ?_ _) | (with_reducible refine Kd.C_drewN ?_ _) | (with_reducible refine Kd.C_drew ?_))); (case side2 => exact HC0_3.out); rintro e w14 ⟨rfl, hb⟩; have n0_ := As0.mk (bkb (g := gb604) (o := .cells #[.int .i64 a0_0, .int .i64 a0_1, .int .i64 a0_2, .slice A0_3 l0_3.length c0_3] 24 (0, 0)) (by (with_reducible repeat (first | refine bkN ?_ _ | refine bkd ?_ | refine bka ?_ _)); exact BK604.out) hb); have n1_ := As0.mk (bwp (by repeat (first | (with_reducible first | exact HB.out | apply bwa | apply pwN | apply bwd | refine bws ?_ GE604.out) | exact HB.out)) hb); clear BK604; clear HB; have BK604 := n0_; have HB := n1_; clear n0_ n1_; (try clear hb); (try clear hb2); (try clear hk); (try clear hi))); try go_wp2_with (first | (go_at_call 12; (with_reducible refine (l15_plain.calls k a0_0 a0_1 a0_2 _ _ l0_3 false _ ?side1 ?side2 A6.out).mono ?_); (case side1 => repeat (first | exact (Kd.C_below HR0_3.out HB.out) | (with_reducible refine Kd.C_alloc ?_ _) | (with_reducible refine Kd.C_drewN ?_ _) | (with_reducible refine Kd.C_drew ?_))); (case side2 => exact HC0_3.out); rintro e w14 ⟨rfl, hb⟩; have n0_ := As0.mk (bkb (g := gb604) (o := .cells #[.int .i64 a0_0, .int .i64 a0_1, .int .i64 a0_2, .slice A0_3 l0_3.length c0_3] 24 (0, 0)) (by (with_reducible repeat (first | refine bkN ?_ _ | refine bkd ?_ | refine bka ?_ _)); exact BK604.out) hb); have n1_ := As0.mk (bwp (by repeat (first | (with_reducible first | exact HB.out | apply bwa | apply pwN | apply bwd | refine bws ?_ GE604.out) | exact HB.out)) hb); clear BK604; clear HB; have BK604 := n0_; have HB := n1_; clear n0_ n1_; (try clear hb); (try clear hb2); (try clear hk); (try clear hi))))
   go_meet
   case rel => exact ⟨_, (true), (by first | rfl | (simp; done) | (simp [*]; done)), H', ⟨by first | omega | exact Nat.le_refl _⟩, ⟨by (with_reducible repeat (first | refine bkN ?_ _ | refine bkd ?_ | refine bka ?_ _)); exact BK604.out⟩, ⟨by repeat (first | (with_reducible first | exact HB.out | apply bwa | apply pwN | apply bwd | refine bws ?_ GE604.out) | exact HB.out)⟩⟩
 case rest =>
  clear HC4
  try clear p2
  try clear c7
  try clear hcz11_0
  try clear hcz11_1
  try clear hcz11_2
  try clear hcz11_3
  try clear hcz13_0
  try clear hcz13_1
  try clear hcz13_2
  try clear hcz13_3
  try clear hcz9_0
  try clear hcz9_1
  try clear hcz9_2
  try clear hcz9_3
  try clear hfz11_0
  try clear hfz11_1
  try clear hfz11_2
  try clear hfz11_3
  try clear hfz13_0
  try clear hfz13_1
  try clear hfz13_2
  try clear hfz13_3
  try clear hfz9_0
  try clear hfz9_1
  try clear hfz9_2
  try clear hfz9_3
  obtain ⟨kq, x23_3, rfl, HA, HJ3, BK604, HB⟩ := hcut
  cases kq with
  | zero => exact absurd HA.out (by simp [l15_ItemParts.j0])
  | succ kj3 =>
   have H := HA.out
   clear HA
   simp only [l15_ItemParts.j0] at H
   by_cases c15 : x23_3 = true
   ·subst c15
    have H1 : ((l15_awake.f kj3).bind fun t607 => (some t607)) = some r := by rw [if_pos rfl] at H; exact H
    clear H
    have H := H1
    clear H1
    replace H := Option.bind_eq_some_iff.mp H
    obtain ⟨t607, A160, H⟩ := H
    replace H : (some t607) = some r := H
    have A16 := As0.mk A160
    clear A160
    obtain rfl := Option.some.inj H
    go_wp2_with (first | (go_at_call 16; (with_reducible refine (l15_awake.calls kj3  t607 _ A16.out).mono ?_); rintro e w17 ⟨rfl, hb⟩; have n0_ := As0.mk (bkb (g := gb604) (o := .cells #[.int .i64 a0_0, .int .i64 a0_1, .int .i64 a0_2, .slice A0_3 l0_3.length c0_3] 24 (0, 0)) (by (with_reducible repeat (first | refine bkN ?_ _ | refine bkd ?_ | refine bka ?_ _)); exact BK604.out) hb); have n1_ := As0.mk (bwp (by repeat (first | (with_reducible first | exact HB.out | apply bwa | apply pwN | apply bwd | refine bws ?_ GE604.out) | exact HB.out)) hb); clear BK604; clear HB; have BK604 := n0_; have HB := n1_; clear n0_ n1_; (try clear hb); (try clear hb2); (try clear hk); (try clear hi)))
    repeat (go_quiet (first | (go_at_call 16; (with_reducible refine (l15_awake.calls kj3  t607 _ A16.out).mono ?_); rintro e w17 ⟨rfl, hb⟩; have n0_ := As0.mk (bkb (g := gb604) (o := .cells #[.int .i64 a0_0, .int .i64 a0_1, .int .i64 a0_2, .slice A0_3 l0_3.length c0_3] 24 (0, 0)) (by (with_reducible repeat (first | refine bkN ?_ _ | refine bkd ?_ | refine bka ?_ _)); exact BK604.out) hb); have n1_ := As0.mk (bwp (by repeat (first | (with_reducible first | exact HB.out | apply bwa | apply pwN | apply bwd | refine bws ?_ GE604.out) | exact HB.out)) hb); clear BK604; clear HB; have BK604 := n0_; have HB := n1_; clear n0_ n1_; (try clear hb); (try clear hb2); (try clear hk); (try clear hi))); try go_wp2_with (first | (go_at_call 16; (with_reducible refine (l15_awake.calls kj3  t607 _ A16.out).mono ?_); rintro e w17 ⟨rfl, hb⟩; have n0_ := As0.mk (bkb (g := gb604) (o := .cells #[.int .i64 a0_0, .int .i64 a0_1, .int .i64 a0_2, .slice A0_3 l0_3.length c0_3] 24 (0, 0)) (by (with_reducible repeat (first | refine bkN ?_ _ | refine bkd ?_ | refine bka ?_ _)); exact BK604.out) hb); have n1_ := As0.mk (bwp (by repeat (first | (with_reducible first | exact HB.out | apply bwa | apply pwN | apply bwd | refine bws ?_ GE604.out) | exact HB.out)) hb); clear BK604; clear HB; have BK604 := n0_; have HB := n1_; clear n0_ n1_; (try clear hb); (try clear hb2); (try clear hk); (try clear hi))))
    go_ret
    exact ⟨by first | rfl | (simp [errW_none, errW_some] <;> rfl) | (simp [*, errW_none, errW_some] <;> rfl), by repeat (first | (with_reducible first | exact HB.out | apply bwa | apply pwN | apply bwd | refine bws ?_ GE604.out) | exact HB.out)⟩
   ·replace c15 := Bool.eq_false_iff.mpr c15
    subst c15
    have H1 : (if a0_0 = 0 then (none) else (if a0_1 = 0 then (none) else (if (wrap64 ((Int.tmod (wrap64 (a1)) a0_0) + 1)) = 0 then (none) else (if (wrap64 ((Int.tmod (wrap64 (a2)) a0_1) + 1)) = 0 then (none) else (if (wrap64 (Int.tdiv (wrap64 ((wrap64 (a0_0 + (wrap64 ((Int.tmod (wrap64 (a1)) a0_0) + 1)))) - 1)) (wrap64 ((Int.tmod (wrap64 (a1)) a0_0) + 1)))) > 8 then (l15_ItemParts.j1 kj3 (wrap64 ((Int.tmod (wrap64 (a1)) a0_0) + 1)) (wrap64 ((Int.tmod (wrap64 (a2)) a0_1) + 1)) (wrap64 (Int.tdiv (wrap64 ((wrap64 (a0_0 + (wrap64 ((Int.tmod (wrap64 (a1)) a0_0) + 1)))) - 1)) (wrap64 ((Int.tmod (wrap64 (a1)) a0_0) + 1)))) (wrap64 (Int.tdiv (wrap64 ((wrap64 (a0_1 + (wrap64 ((Int.tmod (wrap64 (a2)) a0_1) + 1)))) - 1)) (wrap64 ((Int.tmod (wrap64 (a2)) a0_1) + 1)))) true a0_0 a0_1 a0_2 l0_3) else (l15_ItemParts.j1 kj3 (wrap64 ((Int.tmod (wrap64 (a1)) a0_0) + 1)) (wrap64 ((Int.tmod (wrap64 (a2)) a0_1) + 1)) (wrap64 (Int.tdiv (wrap64 ((wrap64 (a0_0 + (wrap64 ((Int.tmod (wrap64 (a1)) a0_0) + 1)))) - 1)) (wrap64 ((Int.tmod (wrap64 (a1)) a0_0) + 1)))) (wrap64 (Int.tdiv (wrap64 ((wrap64 (a0_1 + (wrap64 ((Int.tmod (wrap64 (a2)) a0_1) + 1)))) - 1)) (wrap64 ((Int.tmod (wrap64 (a2)) a0_1) + 1)))) (decide ((wrap64 (Int.tdiv (wrap64 ((wrap64 (a0_1 + (wrap64 ((Int.tmod (wrap64 (a2)) a0_1) + 1)))) - 1)) (wrap64 ((Int.tmod (wrap64 (a2)) a0_1) + 1)))) > 8)) a0_0 a0_1 a0_2 l0_3)))))) = some r := by rw [if_neg (show ¬ (false = true) by decide)] at H; exact H
    clear H
    have H := H1
    clear H1
    by_cases c18 : a0_0 = 0
    ·rw [if_pos c18] at H
     exact absurd H (by simp)
    ·rw [if_neg c18] at H
     have c18b0 : (a0_0 == 0) = false := beq_eq_false_iff_ne.mpr c18
     have c18b1 : (a0_0 != 0) = true := bne_iff_ne.mpr c18
     by_cases c19 : a0_1 = 0
     ·rw [if_pos c19] at H
      exact absurd H (by simp)
     ·rw [if_neg c19] at H
      have c19b0 : (a0_1 == 0) = false := beq_eq_false_iff_ne.mpr c19
      have c19b1 : (a0_1 != 0) = true := bne_iff_ne.mpr c19
      by_cases c20 : (wrap64 ((Int.tmod (wrap64 (a1)) a0_0) + 1)) = 0
      ·rw [if_pos c20] at H
       exact absurd H (by simp)
      ·rw [if_neg c20] at H
       have c20b0 : ((wrap64 ((Int.tmod (wrap64 (a1)) a0_0) + 1)) == 0) = false := beq_eq_false_iff_ne.mpr c20
       have c20b1 : ((wrap64 ((Int.tmod (wrap64 (a1)) a0_0) + 1)) != 0) = true := bne_iff_ne.mpr c20
       by_cases c21 : (wrap64 ((Int.tmod (wrap64 (a2)) a0_1) + 1)) = 0
       ·rw [if_pos c21] at H
        exact absurd H (by simp)
       ·rw [if_neg c21] at H
        have c21b0 : ((wrap64 ((Int.tmod (wrap64 (a2)) a0_1) + 1)) == 0) = false := beq_eq_false_iff_ne.mpr c21
        have c21b1 : ((wrap64 ((Int.tmod (wrap64 (a2)) a0_1) + 1)) != 0) = true := bne_iff_ne.mpr c21
        have HC22 := As0.mk H
        clear H
        have hcz23_0 : wc.cell? ⟨gb604, 0, none⟩ = some (.int .i64 a0_0) := (bkc BK604.out 0).trans rfl
        have hcz23_1 : wc.cell? ⟨gb604, 1, none⟩ = some (.int .i64 a0_1) := (bkc BK604.out 1).trans rfl
        have hcz23_2 : wc.cell? ⟨gb604, 2, none⟩ = some (.int .i64 a0_2) := (bkc BK604.out 2).trans rfl
        have hcz23_3 : wc.cell? ⟨gb604, 3, none⟩ = some (.slice A0_3 l0_3.length c0_3) := (bkc BK604.out 3).trans rfl
        have hfz23_0 := bkz BK604.out 0
        have hfz23_1 := bkz BK604.out 1
        have hfz23_2 := bkz BK604.out 2
        have hfz23_3 := bkz BK604.out 3
        go_upto_region 5 with (fail)
        repeat (go_quiet (fail); go_upto_region 5 with (fail))
        go_cut [56] (fun v56 wc => ∃ (kq : Nat) (x56_21 : Bool), v56 = .bool x56_21 ∧ As0 (l15_ItemParts.j1 kq (wrap64 ((Int.tmod (wrap64 (a1)) a0_0) + 1)) (wrap64 ((Int.tmod (wrap64 (a2)) a0_1) + 1)) (wrap64 (Int.tdiv (wrap64 ((wrap64 (a0_0 + (wrap64 ((Int.tmod (wrap64 (a1)) a0_0) + 1)))) - 1)) (wrap64 ((Int.tmod (wrap64 (a1)) a0_0) + 1)))) (wrap64 (Int.tdiv (wrap64 ((wrap64 (a0_1 + (wrap64 ((Int.tmod (wrap64 (a2)) a0_1) + 1)))) - 1)) (wrap64 ((Int.tmod (wrap64 (a2)) a0_1) + 1)))) x56_21 a0_0 a0_1 a0_2 l0_3 = some r) ∧ As0 (kq ≤ kj3) ∧ As0 (wc.heap[gb604]? = some (.cells #[.int .i64 a0_0, .int .i64 a0_1, .int .i64 a0_2, (.slice A0_3 l0_3.length c0_3)] 24 (0, 0))) ∧ As0 (Below w.heap.size w wc))
        case first =>
         have H := HC22.out
         clear HC22
         by_cases c24 : (wrap64 (Int.tdiv (wrap64 ((wrap64 (a0_0 + (wrap64 ((Int.tmod (wrap64 (a1)) a0_0) + 1)))) - 1)) (wrap64 ((Int.tmod (wrap64 (a1)) a0_0) + 1)))) > 8
         ·rw [if_pos c24] at H
          have c24b0 : decide (8 < (wrap64 (Int.tdiv (wrap64 ((wrap64 (a0_0 + (wrap64 ((Int.tmod (wrap64 (a1)) a0_0) + 1)))) - 1)) (wrap64 ((Int.tmod (wrap64 (a1)) a0_0) + 1))))) = true := decide_eq_true c24
          clear c24
          (first | rw [c24b0] | (simp only [i64_w, i32_w]; rw [c24b0]) | skip)
          have H' := As0.mk H
          clear H
          go_wp2
          repeat (go_quiet (fail); try go_wp2)
          go_meet
          case rel => exact ⟨_, (true), (by first | rfl | (simp; done) | (simp [*]; done)), H', ⟨by have := HJ3.out; first | omega | exact Nat.le_refl _⟩, ⟨by (with_reducible repeat (first | refine bkN ?_ _ | refine bkd ?_ | refine bka ?_ _)); exact BK604.out⟩, ⟨by repeat (first | (with_reducible first | exact HB.out | apply bwa | apply pwN | apply bwd | refine bws ?_ GE604.out) | exact HB.out)⟩⟩
         ·rw [if_neg c24] at H
          have c24b0 : decide (8 < (wrap64 (Int.tdiv (wrap64 ((wrap64 (a0_0 + (wrap64 ((Int.tmod (wrap64 (a1)) a0_0) + 1)))) - 1)) (wrap64 ((Int.tmod (wrap64 (a1)) a0_0) + 1))))) = false := decide_eq_false c24
          clear c24
          (first | rw [c24b0] | (simp only [i64_w, i32_w]; rw [c24b0]) | skip)
          have H' := As0.mk H
          clear H
          go_wp2
          repeat (go_quiet (fail); try go_wp2)
          go_meet
          case rel => exact ⟨_, (decide ((wrap64 (Int.tdiv (wrap64 ((wrap64 (a0_1 + (wrap64 ((Int.tmod (wrap64 (a2)) a0_1) + 1)))) - 1)) (wrap64 ((Int.tmod (wrap64 (a2)) a0_1) + 1)))) > 8)), (by first | rfl | (simp; done) | (simp [*]; done)), H', ⟨by have := HJ3.out; first | omega | exact Nat.le_refl _⟩, ⟨by (with_reducible repeat (first | refine bkN ?_ _ | refine bkd ?_ | refine bka ?_ _)); exact BK604.out⟩, ⟨by repeat (first | (with_reducible first | exact HB.out | apply bwa | apply pwN | apply bwd | refine bws ?_ GE604.out) | exact HB.out)⟩⟩
        case rest =>
         clear HC22
         try clear c1
         try clear c2
         try clear p2
         try clear p6
         try clear c7
         try clear c15
         try clear c18
         try clear c18b0
         try clear c18b1
         try clear c19
         try clear c19b0
         try clear c19b1
         try clear c20
         try clear c20b0
         try clear c20b1
         try clear c21
         try clear c21b0
         try clear c21b1
         try clear c24
         try clear c24b0
         try clear hcz11_0
         try clear hcz11_1
         try clear hcz11_2
         try clear hcz11_3
         try clear hcz13_0
         try clear hcz13_1
         try clear hcz13_2
         try clear hcz13_3
         try clear hcz23_0
         try clear hcz23_1
         try clear hcz23_2
         try clear hcz23_3
         try clear hcz9_0
         try clear hcz9_1
         try clear hcz9_2
         try clear hcz9_3
         try clear hfz11_0
         try clear hfz11_1
         try clear hfz11_2
         try clear hfz11_3
         try clear hfz13_0
         try clear hfz13_1
         try clear hfz13_2
         try clear hfz13_3
         try clear hfz23_0
         try clear hfz23_1
         try clear hfz23_2
         try clear hfz23_3
         try clear hfz9_0
         try clear hfz9_1
         try clear hfz9_2
         try clear hfz9_3
         try clear p2
         obtain ⟨kq, x56_21, rfl, HA, HJ21, BK604, HB⟩ := hcut
         cases kq with
         | zero => exact absurd HA.out (by simp [l15_ItemParts.j1])
         | succ kj21 =>
          have H := HA.out
          clear HA
          simp only [l15_ItemParts.j1] at H
          by_cases c25 : x56_21 = true
          ·subst c25
           have H1 : ((l15_awake.f kj21).bind fun t608 => (some t608)) = some r := by rw [if_pos rfl] at H; exact H
           clear H
           have H := H1
           clear H1
           replace H := Option.bind_eq_some_iff.mp H
           obtain ⟨t608, A260, H⟩ := H
           replace H : (some t608) = some r := H
           have A26 := As0.mk A260
           clear A260
           obtain rfl := Option.some.inj H
           go_wp2_with (first | (go_at_call 16; (with_reducible refine (l15_awake.calls kj21  t608 _ A26.out).mono ?_); rintro e w27 ⟨rfl, hb⟩; have n0_ := As0.mk (bkb (g := gb604) (o := .cells #[.int .i64 a0_0, .int .i64 a0_1, .int .i64 a0_2, .slice A0_3 l0_3.length c0_3] 24 (0, 0)) (by (with_reducible repeat (first | refine bkN ?_ _ | refine bkd ?_ | refine bka ?_ _)); exact BK604.out) hb); have n1_ := As0.mk (bwp (by repeat (first | (with_reducible first | exact HB.out | apply bwa | apply pwN | apply bwd | refine bws ?_ GE604.out) | exact HB.out)) hb); clear BK604; clear HB; have BK604 := n0_; have HB := n1_; clear n0_ n1_; (try clear hb); (try clear hb2); (try clear hk); (try clear hi)))
           repeat (go_quiet (first | (go_at_call 16; (with_reducible refine (l15_awake.calls kj21  t608 _ A26.out).mono ?_); rintro e w27 ⟨rfl, hb⟩; have n0_ := As0.mk (bkb (g := gb604) (o := .cells #[.int .i64 a0_0, .int .i64 a0_1, .int .i64 a0_2, .slice A0_3 l0_3.length c0_3] 24 (0, 0)) (by (with_reducible repeat (first | refine bkN ?_ _ | refine bkd ?_ | refine bka ?_ _)); exact BK604.out) hb); have n1_ := As0.mk (bwp (by repeat (first | (with_reducible first | exact HB.out | apply bwa | apply pwN | apply bwd | refine bws ?_ GE604.out) | exact HB.out)) hb); clear BK604; clear HB; have BK604 := n0_; have HB := n1_; clear n0_ n1_; (try clear hb); (try clear hb2); (try clear hk); (try clear hi))); try go_wp2_with (first | (go_at_call 16; (with_reducible refine (l15_awake.calls kj21  t608 _ A26.out).mono ?_); rintro e w27 ⟨rfl, hb⟩; have n0_ := As0.mk (bkb (g := gb604) (o := .cells #[.int .i64 a0_0, .int .i64 a0_1, .int .i64 a0_2, .slice A0_3 l0_3.length c0_3] 24 (0, 0)) (by (with_reducible repeat (first | refine bkN ?_ _ | refine bkd ?_ | refine bka ?_ _)); exact BK604.out) hb); have n1_ := As0.mk (bwp (by repeat (first | (with_reducible first | exact HB.out | apply bwa | apply pwN | apply bwd | refine bws ?_ GE604.out) | exact HB.out)) hb); clear BK604; clear HB; have BK604 := n0_; have HB := n1_; clear n0_ n1_; (try clear hb); (try clear hb2); (try clear hk); (try clear hi))))
           go_ret
           exact ⟨by first | rfl | (simp [errW_none, errW_some] <;> rfl) | (simp [*, errW_none, errW_some] <;> rfl), by repeat (first | (with_reducible first | exact HB.out | apply bwa | apply pwN | apply bwd | refine bws ?_ GE604.out) | exact HB.out)⟩
          ·replace c25 := Bool.eq_false_iff.mpr c25
           subst c25
           have H1 : (l15_ItemParts.l0 kj21 (wrap64 ((Int.tmod (wrap64 (a1)) a0_0) + 1)) (wrap64 ((Int.tmod (wrap64 (a2)) a0_1) + 1)) (wrap64 (Int.tdiv (wrap64 ((wrap64 (a0_0 + (wrap64 ((Int.tmod (wrap64 (a1)) a0_0) + 1)))) - 1)) (wrap64 ((Int.tmod (wrap64 (a1)) a0_0) + 1)))) (wrap64 (Int.tdiv (wrap64 ((wrap64 (a0_1 + (wrap64 ((Int.tmod (wrap64 (a2)) a0_1) + 1)))) - 1)) (wrap64 ((Int.tmod (wrap64 (a2)) a0_1) + 1)))) ([] : List (S24)) 0 a0_0 a0_1 a0_2 l0_3) = some r := by rw [if_neg (show ¬ (false = true) by decide)] at H; exact H
           clear H
           have H := H1
           clear H1
           have H' := As0.mk H
           clear H
           go_wp2
           repeat (go_quiet (fail); try go_wp2)
           go_loopg [11, 12] kj21 (fun kq v11 v12 w' => ∃ (x11_3 : List (S24)) (x12_3 : Int), v12 = .int .i64 x12_3 ∧ As0 (l15_ItemParts.l0 kq (wrap64 ((Int.tmod (wrap64 (a1)) a0_0) + 1)) (wrap64 ((Int.tmod (wrap64 (a2)) a0_1) + 1)) (wrap64 (Int.tdiv (wrap64 ((wrap64 (a0_0 + (wrap64 ((Int.tmod (wrap64 (a1)) a0_0) + 1)))) - 1)) (wrap64 ((Int.tmod (wrap64 (a1)) a0_0) + 1)))) (wrap64 (Int.tdiv (wrap64 ((wrap64 (a0_1 + (wrap64 ((Int.tmod (wrap64 (a2)) a0_1) + 1)))) - 1)) (wrap64 ((Int.tmod (wrap64 (a2)) a0_1) + 1)))) x11_3 x12_3 a0_0 a0_1 a0_2 l0_3 = some r) ∧ As0 (kq ≤ kj21) ∧ As0 (Kd.R k24 24 w' w.heap.size (fun k_ => k_ ≠ gb604) v11 x11_3) ∧ As0 (w'.heap[gb604]? = some (.cells #[.int .i64 a0_0, .int .i64 a0_1, .int .i64 a0_2, (.slice A0_3 l0_3.length c0_3)] 24 (0, 0))) ∧ As0 (Below w.heap.size w w'))
           case atStart => exact ⟨(([] : List (S24))), (0), (by first | rfl | (simp; done) | (simp [*]; done)), H', ⟨Nat.le_refl _⟩, ⟨by first | exact Kd.R_nil _ _ _ _ _ | exact Kd.N_nil _ _ _ _ _ | exact Kd.V_nil _ _ _ _ _ | exact Kd.Q_nil _ _ _ _ _ | exact Kd.S_nil _ _ _ _ _⟩, ⟨by (with_reducible repeat (first | refine bkN ?_ _ | refine bkd ?_ | refine bka ?_ _)); exact BK604.out⟩, ⟨by repeat (first | (with_reducible first | exact HB.out | apply bwa | apply pwN | apply bwd | refine bws ?_ GE604.out) | exact HB.out)⟩⟩
           case round =>
            clear H'
            try clear c1
            try clear c2
            try clear p2
            try clear p6
            try clear c7
            try clear c15
            try clear c18
            try clear c18b0
            try clear c18b1
            try clear c19
            try clear c19b0
            try clear c19b1
            try clear c20
            try clear c20b0
            try clear c20b1
            try clear c21
            try clear c21b0
            try clear c21b1
            try clear c24
            try clear c24b0
            try clear c25
            try clear hcz11_0
            try clear hcz11_1
            try clear hcz11_2
            try clear hcz11_3
            try clear hcz13_0
            try clear hcz13_1
            try clear hcz13_2
            try clear hcz13_3
            try clear hcz23_0
            try clear hcz23_1
            try clear hcz23_2
            try clear hcz23_3
            try clear hcz9_0
            try clear hcz9_1
            try clear hcz9_2
            try clear hcz9_3
            try clear hfz11_0
            try clear hfz11_1
            try clear hfz11_2
            try clear hfz11_3
            try clear hfz13_0
            try clear hfz13_1
            try clear hfz13_2
            try clear hfz13_3
            try clear hfz23_0
            try clear hfz23_1
            try clear hfz23_2
            try clear hfz23_3
            try clear hfz9_0
            try clear hfz9_1
            try clear hfz9_2
            try clear hfz9_3
            try clear p2
            try clear p6
            obtain ⟨x11_3, x12_3, rfl, HA, HK3, HO_11, BK604, HB⟩ := hrel
            cases gk with
            | zero => exact absurd HA.out (by simp [l15_ItemParts.l0])
            | succ k3 =>
             have H := HA.out
             clear HA
             simp only [l15_ItemParts.l0] at H
             by_cases c28 : x12_3 < (wrap64 (Int.tdiv (wrap64 ((wrap64 (a0_1 + (wrap64 ((Int.tmod (wrap64 (a2)) a0_1) + 1)))) - 1)) (wrap64 ((Int.tmod (wrap64 (a2)) a0_1) + 1))))
             ·rw [if_pos c28] at H
              have c28b0 : decide (x12_3 < (wrap64 (Int.tdiv (wrap64 ((wrap64 (a0_1 + (wrap64 ((Int.tmod (wrap64 (a2)) a0_1) + 1)))) - 1)) (wrap64 ((Int.tmod (wrap64 (a2)) a0_1) + 1))))) = true := decide_eq_true c28
              clear c28
              have H' := As0.mk H
              clear H
              go_wp2
              repeat (go_quiet (fail); try go_wp2)
              go_loopg [11, 13] k3 (fun kq v11 v13 w' => ∃ (x11_4 : List (S24)) (x13_4 : Int), v13 = .int .i64 x13_4 ∧ As0 (l15_ItemParts.l1 kq (wrap64 ((Int.tmod (wrap64 (a1)) a0_0) + 1)) (wrap64 ((Int.tmod (wrap64 (a2)) a0_1) + 1)) (wrap64 (Int.tdiv (wrap64 ((wrap64 (a0_0 + (wrap64 ((Int.tmod (wrap64 (a1)) a0_0) + 1)))) - 1)) (wrap64 ((Int.tmod (wrap64 (a1)) a0_0) + 1)))) (wrap64 (Int.tdiv (wrap64 ((wrap64 (a0_1 + (wrap64 ((Int.tmod (wrap64 (a2)) a0_1) + 1)))) - 1)) (wrap64 ((Int.tmod (wrap64 (a2)) a0_1) + 1)))) x11_4 x12_3 x13_4 a0_0 a0_1 a0_2 l0_3 = some r) ∧ As0 (kq ≤ k3) ∧ As0 (Kd.R k24 24 w' w.heap.size (fun k_ => k_ ≠ gb604) v11 x11_4) ∧ As0 (w'.heap[gb604]? = some (.cells #[.int .i64 a0_0, .int .i64 a0_1, .int .i64 a0_2, (.slice A0_3 l0_3.length c0_3)] 24 (0, 0))) ∧ As0 (Below w.heap.size w w'))
              case atStart => exact ⟨(x11_3), (0), (by first | rfl | (simp; done) | (simp [*]; done)), H', ⟨Nat.le_refl _⟩, ⟨by (with_reducible repeat (first | apply Kd.R_alloc | apply Kd.R_drewN | apply Kd.R_drew)); exact HO_11.out⟩, ⟨by (with_reducible repeat (first | refine bkN ?_ _ | refine bkd ?_ | refine bka ?_ _)); exact BK604.out⟩, ⟨by repeat (first | (with_reducible first | exact HB.out | apply bwa | apply pwN | apply bwd | refine bws ?_ GE604.out) | exact HB.out)⟩⟩
              case round =>
               clear H'
               try clear c1
               try clear c2
               try clear p2
               try clear p6
               try clear c7
               try clear c15
               try clear c18
               try clear c18b0
               try clear c18b1
               try clear c19
               try clear c19b0
               try clear c19b1
               try clear c20
               try clear c20b0
               try clear c20b1
               try clear c21
               try clear c21b0
               try clear c21b1
               try clear c24
               try clear c24b0
               try clear c25
               try clear c28
               try clear c28b0
               try clear hcz11_0
               try clear hcz11_1
               try clear hcz11_2
               try clear hcz11_3
               try clear hcz13_0
               try clear hcz13_1
               try clear hcz13_2
               try clear hcz13_3
               try clear hcz23_0
               try clear hcz23_1
               try clear hcz23_2
               try clear hcz23_3
               try clear hcz9_0
               try clear hcz9_1
               try clear hcz9_2
               try clear hcz9_3
               try clear hfz11_0
               try clear hfz11_1
               try clear hfz11_2
               try clear hfz11_3
               try clear hfz13_0
               try clear hfz13_1
               try clear hfz13_2
               try clear hfz13_3
               try clear hfz23_0
               try clear hfz23_1
               try clear hfz23_2
               try clear hfz23_3
               try clear hfz9_0
               try clear hfz9_1
               try clear hfz9_2
               try clear hfz9_3
               try clear p2
               try clear p6
               obtain ⟨x11_4, x13_4, rfl, HA, HK4, HO_11, BK604, HB⟩ := hrel
               cases gk with
               | zero => exact absurd HA.out (by simp [l15_ItemParts.l1])
               | succ k4 =>
                have H := HA.out
                clear HA
                simp only [l15_ItemParts.l1] at H
                by_cases c29 : x13_4 < (wrap64 (Int.tdiv (wrap64 ((wrap64 (a0_0 + (wrap64 ((Int.tmod (wrap64 (a1)) a0_0) + 1)))) - 1)) (wrap64 ((Int.tmod (wrap64 (a1)) a0_0) + 1))))
                ·rw [if_pos c29] at H
                 have c29b0 : decide (x13_4 < (wrap64 (Int.tdiv (wrap64 ((wrap64 (a0_0 + (wrap64 ((Int.tmod (wrap64 (a1)) a0_0) + 1)))) - 1)) (wrap64 ((Int.tmod (wrap64 (a1)) a0_0) + 1))))) = true := decide_eq_true c29
                 clear c29
                 replace H := Option.bind_eq_some_iff.mp H
                 obtain ⟨⟨t619, t620, t621, t622⟩, A300, H⟩ := H
                 replace H : (if x11_4.length < 2932031007402 then (l15_ItemParts.l1 k4 (wrap64 ((Int.tmod (wrap64 (a1)) a0_0) + 1)) (wrap64 ((Int.tmod (wrap64 (a2)) a0_1) + 1)) (wrap64 (Int.tdiv (wrap64 ((wrap64 (a0_0 + (wrap64 ((Int.tmod (wrap64 (a1)) a0_0) + 1)))) - 1)) (wrap64 ((Int.tmod (wrap64 (a1)) a0_0) + 1)))) (wrap64 (Int.tdiv (wrap64 ((wrap64 (a0_1 + (wrap64 ((Int.tmod (wrap64 (a2)) a0_1) + 1)))) - 1)) (wrap64 ((Int.tmod (wrap64 (a2)) a0_1) + 1)))) (x11_4 ++ [(⟨t619, t620, t621, t622⟩ : S24)]) x12_3 (wrap64 (x13_4 + 1)) a0_0 a0_1 a0_2 l0_3) else (none)) = some r := H
                 have A30 := As0.mk A300
                 clear A300
                 by_cases c31 : x11_4.length < 2932031007402
                 ·rw [if_pos c31] at H
                  have LMc31 := As0.mk c31
                  clear c31
                  obtain ⟨y625, hy625⟩ : ∃ y_ : List (S24), y_ = (x11_4 ++ [(⟨t619, t620, t621, t622⟩ : S24)]) := ⟨_, rfl⟩
                  replace H : (l15_ItemParts.l1 k4 (wrap64 ((Int.tmod (wrap64 (a1)) a0_0) + 1)) (wrap64 ((Int.tmod (wrap64 (a2)) a0_1) + 1)) (wrap64 (Int.tdiv (wrap64 ((wrap64 (a0_0 + (wrap64 ((Int.tmod (wrap64 (a1)) a0_0) + 1)))) - 1)) (wrap64 ((Int.tmod (wrap64 (a1)) a0_0) + 1)))) (wrap64 (Int.tdiv (wrap64 ((wrap64 (a0_1 + (wrap64 ((Int.tmod (wrap64 (a2)) a0_1) + 1)))) - 1)) (wrap64 ((Int.tmod (wrap64 (a2)) a0_1) + 1)))) y625 x12_3 (wrap64 (x13_4 + 1)) a0_0 a0_1 a0_2 l0_3) = some r := by first | (rw [hy625]; with_reducible exact H) | (have H2_ := (Option.bind_some _ _).symm.trans H; rw [hy625]; with_reducible exact H2_) | (have H2_ := (Option.bind_some _ _).symm.trans H; with_reducible exact H2_) | with_reducible exact H | (rw [hy625]; exact H) | exact H
                  have Ny625 := As0.mk hy625
                  clear hy625
                  have H' := As0.mk H
                  clear H
                  have hcz32_0 : wr.cell? ⟨gb604, 0, none⟩ = some (.int .i64 a0_0) := (bkc BK604.out 0).trans rfl
                  have hcz32_1 : wr.cell? ⟨gb604, 1, none⟩ = some (.int .i64 a0_1) := (bkc BK604.out 1).trans rfl
                  have hcz32_2 : wr.cell? ⟨gb604, 2, none⟩ = some (.int .i64 a0_2) := (bkc BK604.out 2).trans rfl
                  have hcz32_3 : wr.cell? ⟨gb604, 3, none⟩ = some (.slice A0_3 l0_3.length c0_3) := (bkc BK604.out 3).trans rfl
                  have hfz32_0 := bkz BK604.out 0
                  have hfz32_1 := bkz BK604.out 1
                  have hfz32_2 := bkz BK604.out 2
                  have hfz32_3 := bkz BK604.out 3
                  go_wp2_with (first | (go_at_call 31; (with_reducible refine (l15_part.calls k4 a0_0 a0_1 a0_2 _ _ l0_3 (wrap64 (x13_4 * (wrap64 ((Int.tmod (wrap64 (a1)) a0_0) + 1)))) (wrap64 (x12_3 * (wrap64 ((Int.tmod (wrap64 (a2)) a0_1) + 1)))) (wrap64 ((Int.tmod (wrap64 (a1)) a0_0) + 1)) (wrap64 ((Int.tmod (wrap64 (a2)) a0_1) + 1)) t619 t620 t621 t622 _ ?side1 ?side2 A30.out).mono ?_); (case side1 => repeat (first | exact (Kd.C_below HR0_3.out HB.out) | (with_reducible refine Kd.C_alloc ?_ _) | (with_reducible refine Kd.C_drewN ?_ _) | (with_reducible refine Kd.C_drew ?_))); (case side2 => exact HC0_3.out); rintro e w33 ⟨v623, rfl, ho0, hb⟩; have n0_ := As0.mk (Kd.R_elder' (by (with_reducible repeat (first | apply Kd.R_alloc | apply Kd.R_drewN | apply Kd.R_drew)); exact HO_11.out) (Kd.S_base ho0) hb); have n1_ := As0.mk (Kd.S_lower ho0 (bwz (by repeat (first | (with_reducible first | exact HB.out | apply bwa | apply pwN | apply bwd | refine bws ?_ GE604.out) | exact HB.out)))); have n2_ := As0.mk (bkb (g := gb604) (o := .cells #[.int .i64 a0_0, .int .i64 a0_1, .int .i64 a0_2, .slice A0_3 l0_3.length c0_3] 24 (0, 0)) (by (with_reducible repeat (first | refine bkN ?_ _ | refine bkd ?_ | refine bka ?_ _)); exact BK604.out) hb); have n3_ := As0.mk (bwp (by repeat (first | (with_reducible first | exact HB.out | apply bwa | apply pwN | apply bwd | refine bws ?_ GE604.out) | exact HB.out)) hb); clear HO_11; clear BK604; clear HB; have HO_11 := n0_; have HO624 := n1_; have BK604 := n2_; have HB := n3_; clear n0_ n1_ n2_ n3_; (try clear hb); (try clear hb2); (try clear hk); (try clear hi); (try clear ho0); obtain ⟨Ao35, co35, eo35⟩ := Kd.S_slice HO624.out; subst eo35) | ((with_reducible refine gate_builtin (b := .append) (xs := #[.tmp 68, .tmp 79]) rfl ?_); at_builtin; refine Kd.R_append k24 (w0 := w) w.heap.size rfl (.tmp 68) (.tmp 79) 49 24 (.agg #[(.int .i64 0), (.int .i64 0), (.int .i64 0), (.slice none 0 0)]) 48 rfl Tryz.underlying49 info24 rfl (by decide) (by omega) u11 x11_4 (⟨t619, t620, t621, t622⟩ : S24) [.int .i64 t619, .int .i64 t620, .int .i64 t621, .slice Ao35 t622.length co35] (fun k_ => k_ ≠ gb604) (fun k_ => ((fun k_ => k_ ≠ gb604)) k_ ∧ some k_ ≠ (u11 : Value).ownBlock) rfl rfl ?aP (fun _ hk => hk) ?aF ?aO ?aB ?aS ?aL ?_; (case aP => exact k24_mkM _ _ _ (⟨t619, t620, t621, t622⟩ : S24) (Kd.R_mono (Kd.R_types (Kd.R_apart' ((Kd.S_R HO624.out)) (Kd.R_typed HO_11.out) (by decide)) BK604.out (by decide)) (fun k_ hk => ⟨hk.2, hk.1.2⟩))); (case aB => exact (by repeat (first | (with_reducible first | exact HB.out | apply bwa | apply pwN | apply bwd | refine bws ?_ GE604.out) | exact HB.out))); (case aF => exact (fun k_ hk => Kd.freshB (g := gb604) (o := .cells #[.int .i64 a0_0, .int .i64 a0_1, .int .i64 a0_2, .slice A0_3 l0_3.length c0_3] 24 (0, 0)) (by (with_reducible repeat (first | refine bkN ?_ _ | refine bkd ?_ | refine bka ?_ _)); exact BK604.out) k_ hk)); (case aO => exact (by (with_reducible repeat (first | apply Kd.R_alloc | apply Kd.R_drewN | apply Kd.R_drew)); exact Kd.R_mono HO_11.out (fun _ hk => hk.1))); (case aS => exact (bwz (by repeat (first | (with_reducible first | exact HB.out | apply bwa | apply pwN | apply bwd | refine bws ?_ GE604.out) | exact HB.out)))); (case aL => have := LMc31.out; omega); intro v626 w34 ho hb hg hat; rw [← Ny625.out] at ho; have n0_ := As0.mk (blk_grown (g := gb604) (o := .cells #[.int .i64 a0_0, .int .i64 a0_1, .int .i64 a0_2, .slice A0_3 l0_3.length c0_3] 24 (0, 0)) (by (with_reducible repeat (first | refine bkN ?_ _ | refine bkd ?_ | refine bka ?_ _)); exact BK604.out) hg (Kd.R_away HO_11.out (fun _ hk => hk.1))); have n1_ := As0.mk (hb); have n2_ := As0.mk (ho); clear BK604; clear HB; clear HO_11; clear HO624; have BK604 := n0_; have HB := n1_; have HO627 := n2_; clear n0_ n1_ n2_; clear ho hb hg hat))
                  repeat (go_quiet (first | (go_at_call 31; (with_reducible refine (l15_part.calls k4 a0_0 a0_1 a0_2 _ _ l0_3 (wrap64 (x13_4 * (wrap64 ((Int.tmod (wrap64 (a1)) a0_0) + 1)))) (wrap64 (x12_3 * (wrap64 ((Int.tmod (wrap64 (a2)) a0_1) + 1)))) (wrap64 ((Int.tmod (wrap64 (a1)) a0_0) + 1)) (wrap64 ((Int.tmod (wrap64 (a2)) a0_1) + 1)) t619 t620 t621 t622 _ ?side1 ?side2 A30.out).mono ?_); (case side1 => repeat (first | exact (Kd.C_below HR0_3.out HB.out) | (with_reducible refine Kd.C_alloc ?_ _) | (with_reducible refine Kd.C_drewN ?_ _) | (with_reducible refine Kd.C_drew ?_))); (case side2 => exact HC0_3.out); rintro e w33 ⟨v623, rfl, ho0, hb⟩; have n0_ := As0.mk (Kd.R_elder' (by (with_reducible repeat (first | apply Kd.R_alloc | apply Kd.R_drewN | apply Kd.R_drew)); exact HO_11.out) (Kd.S_base ho0) hb); have n1_ := As0.mk (Kd.S_lower ho0 (bwz (by repeat (first | (with_reducible first | exact HB.out | apply bwa | apply pwN | apply bwd | refine bws ?_ GE604.out) | exact HB.out)))); have n2_ := As0.mk (bkb (g := gb604) (o := .cells #[.int .i64 a0_0, .int .i64 a0_1, .int .i64 a0_2, .slice A0_3 l0_3.length c0_3] 24 (0, 0)) (by (with_reducible repeat (first | refine bkN ?_ _ | refine bkd ?_ | refine bka ?_ _)); exact BK604.out) hb); have n3_ := As0.mk (bwp (by repeat (first | (with_reducible first | exact HB.out | apply bwa | apply pwN | apply bwd | refine bws ?_ GE604.out) | exact HB.out)) hb); clear HO_11; clear BK604; clear HB; have HO_11 := n0_; have HO624 := n1_; have BK604 := n2_; have HB := n3_; clear n0_ n1_ n2_ n3_; (try clear hb); (try clear hb2); (try clear hk); (try clear hi); (try clear ho0); obtain ⟨Ao35, co35, eo35⟩ := Kd.S_slice HO624.out; subst eo35) | ((with_reducible refine gate_builtin (b := .append) (xs := #[.tmp 68, .tmp 79]) rfl ?_); at_builtin; refine Kd.R_append k24 (w0 := w) w.heap.size rfl (.tmp 68) (.tmp 79) 49 24 (.agg #[(.int .i64 0), (.int .i64 0), (.int .i64 0), (.slice none 0 0)]) 48 rfl Tryz.underlying49 info24 rfl (by decide) (by omega) u11 x11_4 (⟨t619, t620, t621, t622⟩ : S24) [.int .i64 t619, .int .i64 t620, .int .i64 t621, .slice Ao35 t622.length co35] (fun k_ => k_ ≠ gb604) (fun k_ => ((fun k_ => k_ ≠ gb604)) k_ ∧ some k_ ≠ (u11 : Value).ownBlock) rfl rfl ?aP (fun _ hk => hk) ?aF ?aO ?aB ?aS ?aL ?_; (case aP => exact k24_mkM _ _ _ (⟨t619, t620, t621, t622⟩ : S24) (Kd.R_mono (Kd.R_types (Kd.R_apart' ((Kd.S_R HO624.out)) (Kd.R_typed HO_11.out) (by decide)) BK604.out (by decide)) (fun k_ hk => ⟨hk.2, hk.1.2⟩))); (case aB => exact (by repeat (first | (with_reducible first | exact HB.out | apply bwa | apply pwN | apply bwd | refine bws ?_ GE604.out) | exact HB.out))); (case aF => exact (fun k_ hk => Kd.freshB (g := gb604) (o := .cells #[.int .i64 a0_0, .int .i64 a0_1, .int .i64 a0_2, .slice A0_3 l0_3.length c0_3] 24 (0, 0)) (by (with_reducible repeat (first | refine bkN ?_ _ | refine bkd ?_ | refine bka ?_ _)); exact BK604.out) k_ hk)); (case aO => exact (by (with_reducible repeat (first | apply Kd.R_alloc | apply Kd.R_drewN | apply Kd.R_drew)); exact Kd.R_mono HO_11.out (fun _ hk => hk.1))); (case aS => exact (bwz (by repeat (first | (with_reducible first | exact HB.out | apply bwa | apply pwN | apply bwd | refine bws ?_ GE604.out) | exact HB.out)))); (case aL => have := LMc31.out; omega); intro v626 w34 ho hb hg hat; rw [← Ny625.out] at ho; have n0_ := As0.mk (blk_grown (g := gb604) (o := .cells #[.int .i64 a0_0, .int .i64 a0_1, .int .i64 a0_2, .slice A0_3 l0_3.length c0_3] 24 (0, 0)) (by (with_reducible repeat (first | refine bkN ?_ _ | refine bkd ?_ | refine bka ?_ _)); exact BK604.out) hg (Kd.R_away HO_11.out (fun _ hk => hk.1))); have n1_ := As0.mk (hb); have n2_ := As0.mk (ho); clear BK604; clear HB; clear HO_11; clear HO624; have BK604 := n0_; have HB := n1_; have HO627 := n2_; clear n0_ n1_ n2_; clear ho hb hg hat)); try go_wp2_with (first | (go_at_call 31; (with_reducible refine (l15_part.calls k4 a0_0 a0_1 a0_2 _ _ l0_3 (wrap64 (x13_4 * (wrap64 ((Int.tmod (wrap64 (a1)) a0_0) + 1)))) (wrap64 (x12_3 * (wrap64 ((Int.tmod (wrap64 (a2)) a0_1) + 1)))) (wrap64 ((Int.tmod (wrap64 (a1)) a0_0) + 1)) (wrap64 ((Int.tmod (wrap64 (a2)) a0_1) + 1)) t619 t620 t621 t622 _ ?side1 ?side2 A30.out).mono ?_); (case side1 => repeat (first | exact (Kd.C_below HR0_3.out HB.out) | (with_reducible refine Kd.C_alloc ?_ _) | (with_reducible refine Kd.C_drewN ?_ _) | (with_reducible refine Kd.C_drew ?_))); (case side2 => exact HC0_3.out); rintro e w33 ⟨v623, rfl, ho0, hb⟩; have n0_ := As0.mk (Kd.R_elder' (by (with_reducible repeat (first | apply Kd.R_alloc | apply Kd.R_drewN | apply Kd.R_drew)); exact HO_11.out) (Kd.S_base ho0) hb); have n1_ := As0.mk (Kd.S_lower ho0 (bwz (by repeat (first | (with_reducible first | exact HB.out | apply bwa | apply pwN | apply bwd | refine bws ?_ GE604.out) | exact HB.out)))); have n2_ := As0.mk (bkb (g := gb604) (o := .cells #[.int .i64 a0_0, .int .i64 a0_1, .int .i64 a0_2, .slice A0_3 l0_3.length c0_3] 24 (0, 0)) (by (with_reducible repeat (first | refine bkN ?_ _ | refine bkd ?_ | refine bka ?_ _)); exact BK604.out) hb); have n3_ := As0.mk (bwp (by repeat (first | (with_reducible first | exact HB.out | apply bwa | apply pwN | apply bwd | refine bws ?_ GE604.out) | exact HB.out)) hb); clear HO_11; clear BK604; clear HB; have HO_11 := n0_; have HO624 := n1_; have BK604 := n2_; have HB := n3_; clear n0_ n1_ n2_ n3_; (try clear hb); (try clear hb2); (try clear hk); (try clear hi); (try clear ho0); obtain ⟨Ao35, co35, eo35⟩ := Kd.S_slice HO624.out; subst eo35) | ((with_reducible refine gate_builtin (b := .append) (xs := #[.tmp 68, .tmp 79]) rfl ?_); at_builtin; refine Kd.R_append k24 (w0 := w) w.heap.size rfl (.tmp 68) (.tmp 79) 49 24 (.agg #[(.int .i64 0), (.int .i64 0), (.int .i64 0), (.slice none 0 0)]) 48 rfl Tryz.underlying49 info24 rfl (by decide) (by omega) u11 x11_4 (⟨t619, t620, t621, t622⟩ : S24) [.int .i64 t619, .int .i64 t620, .int .i64 t621, .slice Ao35 t622.length co35] (fun k_ => k_ ≠ gb604) (fun k_ => ((fun k_ => k_ ≠ gb604)) k_ ∧ some k_ ≠ (u11 : Value).ownBlock) rfl rfl ?aP (fun _ hk => hk) ?aF ?aO ?aB ?aS ?aL ?_; (case aP => exact k24_mkM _ _ _ (⟨t619, t620, t621, t622⟩ : S24) (Kd.R_mono (Kd.R_types (Kd.R_apart' ((Kd.S_R HO624.out)) (Kd.R_typed HO_11.out) (by decide)) BK604.out (by decide)) (fun k_ hk => ⟨hk.2, hk.1.2⟩))); (case aB => exact (by repeat (first | (with_reducible first | exact HB.out | apply bwa | apply pwN | apply bwd | refine bws ?_ GE604.out) | exact HB.out))); (case aF => exact (fun k_ hk => Kd.freshB (g := gb604) (o := .cells #[.int .i64 a0_0, .int .i64 a0_1, .int .i64 a0_2, .slice A0_3 l0_3.length c0_3] 24 (0, 0)) (by (with_reducible repeat (first | refine bkN ?_ _ | refine bkd ?_ | refine bka ?_ _)); exact BK604.out) k_ hk)); (case aO => exact (by (with_reducible repeat (first | apply Kd.R_alloc | apply Kd.R_drewN | apply Kd.R_drew)); exact Kd.R_mono HO_11.out (fun _ hk => hk.1))); (case aS => exact (bwz (by repeat (first | (with_reducible first | exact HB.out | apply bwa | apply pwN | apply bwd | refine bws ?_ GE604.out) | exact HB.out)))); (case aL => have := LMc31.out; omega); intro v626 w34 ho hb hg hat; rw [← Ny625.out] at ho; have n0_ := As0.mk (blk_grown (g := gb604) (o := .cells #[.int .i64 a0_0, .int .i64 a0_1, .int .i64 a0_2, .slice A0_3 l0_3.length c0_3] 24 (0, 0)) (by (with_reducible repeat (first | refine bkN ?_ _ | refine bkd ?_ | refine bka ?_ _)); exact BK604.out) hg (Kd.R_away HO_11.out (fun _ hk => hk.1))); have n1_ := As0.mk (hb); have n2_ := As0.mk (ho); clear BK604; clear HB; clear HO_11; clear HO624; have BK604 := n0_; have HB := n1_; have HO627 := n2_; clear n0_ n1_ n2_; clear ho hb hg hat)))
                  go_roundg k4
                  case measure => have := HJ3.out; have := HJ21.out; have := HK3.out; have := HK4.out; omega
                  case rel => exact ⟨(y625), (wrap64 (x13_4 + 1)), (by first | rfl | (simp; done) | (simp [*]; done)), H', ⟨by have := HJ3.out; have := HJ21.out; have := HK3.out; have := HK4.out; omega⟩, ⟨by (with_reducible repeat (first | apply Kd.R_alloc | apply Kd.R_drewN | apply Kd.R_drew)); exact HO627.out⟩, ⟨by (with_reducible repeat (first | refine bkN ?_ _ | refine bkd ?_ | refine bka ?_ _)); exact BK604.out⟩, ⟨by repeat (first | (with_reducible first | exact HB.out | apply bwa | apply pwN | apply bwd | refine bws ?_ GE604.out) | exact HB.out)⟩⟩
                 ·rw [if_neg c31] at H
                  exact absurd H (by simp)
                ·rw [if_neg c29] at H
                 have c29b0 : decide (x13_4 < (wrap64 (Int.tdiv (wrap64 ((wrap64 (a0_0 + (wrap64 ((Int.tmod (wrap64 (a1)) a0_0) + 1)))) - 1)) (wrap64 ((Int.tmod (wrap64 (a1)) a0_0) + 1))))) = false := decide_eq_false c29
                 clear c29
                 have H' := As0.mk H
                 clear H
                 go_wp2
                 repeat (go_quiet (fail); try go_wp2)
                 go_roundg k4
                 case measure => have := HJ3.out; have := HJ21.out; have := HK3.out; have := HK4.out; omega
                 case rel => exact ⟨(x11_4), (wrap64 (x12_3 + 1)), (by first | rfl | (simp; done) | (simp [*]; done)), H', ⟨by have := HJ3.out; have := HJ21.out; have := HK3.out; have := HK4.out; omega⟩, ⟨by (with_reducible repeat (first | apply Kd.R_alloc | apply Kd.R_drewN | apply Kd.R_drew)); exact HO_11.out⟩, ⟨by (with_reducible repeat (first | refine bkN ?_ _ | refine bkd ?_ | refine bka ?_ _)); exact BK604.out⟩, ⟨by repeat (first | (with_reducible first | exact HB.out | apply bwa | apply pwN | apply bwd | refine bws ?_ GE604.out) | exact HB.out)⟩⟩
             ·rw [if_neg c28] at H
              have c28b0 : decide (x12_3 < (wrap64 (Int.tdiv (wrap64 ((wrap64 (a0_1 + (wrap64 ((Int.tmod (wrap64 (a2)) a0_1) + 1)))) - 1)) (wrap64 ((Int.tmod (wrap64 (a2)) a0_1) + 1))))) = false := decide_eq_false c28
              clear c28
              replace H := Option.bind_eq_some_iff.mp H
              obtain ⟨⟨t609, t610, t611, t612, t615⟩, A360, H⟩ := H
              replace H : (if t615 = 0 then ((r00_EqImage.f k3 t609 t610 t611 t612 a0_0 a0_1 a0_2 l0_3).bind fun t617 => (if t617 = true then ((l15_awake.f k3).bind fun t618 => (some t618)) else (some false))) else (some false)) = some r := H
              have A36 := As0.mk A360
              clear A360
              by_cases c37 : t615 = 0
              ·rw [if_pos c37] at H
               have c37b0 : (t615 == 0) = true := beq_iff_eq.mpr c37
               have c37b1 : (t615 != 0) = false := bne_eq_false_iff_eq.mpr c37
               clear c37
               replace H := Option.bind_eq_some_iff.mp H
               obtain ⟨t617, A380, H⟩ := H
               replace H : (if t617 = true then ((l15_awake.f k3).bind fun t618 => (some t618)) else (some false)) = some r := H
               have A38 := As0.mk A380
               clear A380
               by_cases c39 : t617 = true
               ·subst c39
                have H1 : ((l15_awake.f k3).bind fun t618 => (some t618)) = some r := by rw [if_pos rfl] at H; exact H
                clear H
                have H := H1
                clear H1
                replace H := Option.bind_eq_some_iff.mp H
                obtain ⟨t618, A400, H⟩ := H
                replace H : (some t618) = some r := H
                have A40 := As0.mk A400
                clear A400
                obtain rfl := Option.some.inj H
                have hcz41_0 : wr.cell? ⟨gb604, 0, none⟩ = some (.int .i64 a0_0) := (bkc BK604.out 0).trans rfl
                have hcz41_1 : wr.cell? ⟨gb604, 1, none⟩ = some (.int .i64 a0_1) := (bkc BK604.out 1).trans rfl
                have hcz41_2 : wr.cell? ⟨gb604, 2, none⟩ = some (.int .i64 a0_2) := (bkc BK604.out 2).trans rfl
                have hcz41_3 : wr.cell? ⟨gb604, 3, none⟩ = some (.slice A0_3 l0_3.length c0_3) := (bkc BK604.out 3).trans rfl
                have hfz41_0 := bkz BK604.out 0
                have hfz41_1 := bkz BK604.out 1
                have hfz41_2 := bkz BK604.out 2
                have hfz41_3 := bkz BK604.out 3
                obtain ⟨Ao42, co42, eo42⟩ := Kd.R_slice HO_11.out
                subst eo42
                go_wp2_with (first | (go_at_call 28; (with_reducible refine (item_Grid.calls k3 _ _ x11_3 (wrap64 (Int.tdiv (wrap64 ((wrap64 (a0_1 + (wrap64 ((Int.tmod (wrap64 (a2)) a0_1) + 1)))) - 1)) (wrap64 ((Int.tmod (wrap64 (a2)) a0_1) + 1)))) (wrap64 (Int.tdiv (wrap64 ((wrap64 (a0_0 + (wrap64 ((Int.tmod (wrap64 (a1)) a0_0) + 1)))) - 1)) (wrap64 ((Int.tmod (wrap64 (a1)) a0_0) + 1)))) a0_0 a0_1 t609 t610 t611 t612 t615 _ ?side1 ?side2 A36.out).mono ?_); (case side1 => repeat (first | exact (Kd.R_reads' HO_11.out).2.2 | (with_reducible refine Kd.C_alloc ?_ _) | (with_reducible refine Kd.C_drewN ?_ _) | (with_reducible refine Kd.C_drew ?_))); (case side2 => exact (Kd.R_reads' HO_11.out).2.1); rintro e w43 ⟨v613, rfl, ho0, hb⟩; have n0_ := As0.mk (Kd.R_elder' (by (with_reducible repeat (first | apply Kd.R_alloc | apply Kd.R_drewN | apply Kd.R_drew)); exact HO_11.out) (Kd.S_base ho0) hb); have n1_ := As0.mk (Kd.S_lower ho0 (bwz (by repeat (first | (with_reducible first | exact HB.out | apply bwa | apply pwN | apply bwd | refine bws ?_ GE604.out) | exact HB.out)))); have n2_ := As0.mk (bkb (g := gb604) (o := .cells #[.int .i64 a0_0, .int .i64 a0_1, .int .i64 a0_2, .slice A0_3 l0_3.length c0_3] 24 (0, 0)) (by (with_reducible repeat (first | refine bkN ?_ _ | refine bkd ?_ | refine bka ?_ _)); exact BK604.out) hb); have n3_ := As0.mk (bwp (by repeat (first | (with_reducible first | exact HB.out | apply bwa | apply pwN | apply bwd | refine bws ?_ GE604.out) | exact HB.out)) hb); clear HO_11; clear BK604; clear HB; have HO_11 := n0_; have HO614 := n1_; have BK604 := n2_; have HB := n3_; clear n0_ n1_ n2_ n3_; (try clear hb); (try clear hb2); (try clear hk); (try clear hi); (try clear ho0)) | ((with_reducible refine gdt (N := 14) rfl ?_); refine bxe ?hg (N := 14) ?hd (cs := #[.int .i64 0, .int .i64 0, .int .i64 0, .slice none 0 0]) (t := 24) ?hr ?_; (case hd => rfl); (case hg => rfl); (case hr => first | (go_simp; done) | (go_simp; rfl)); intro gb616 hg w44 hbox hb; have n0_ := As0.mk (Kd.R_below (Kd.R_elderB (by (with_reducible repeat (first | apply Kd.R_alloc | apply Kd.R_drewN | apply Kd.R_drew)); exact HO_11.out) gb616 (Nat.le_of_eq hg.symm)) hb); have n1_ := As0.mk (Kd.S_below (by (with_reducible repeat (first | apply Kd.S_alloc | apply Kd.S_drewN | apply Kd.S_drew)); exact HO614.out) hb); have n2_ := As0.mk (bkb (g := gb604) (o := .cells #[.int .i64 a0_0, .int .i64 a0_1, .int .i64 a0_2, .slice A0_3 l0_3.length c0_3] 24 (0, 0)) (by (with_reducible repeat (first | refine bkN ?_ _ | refine bkd ?_ | refine bka ?_ _)); exact BK604.out) hb); have n3_ := As0.mk (bwp (by repeat (first | (with_reducible first | exact HB.out | apply bwa | apply pwN | apply bwd | refine bws ?_ GE604.out) | exact HB.out)) hb); have n4_ := As0.mk (hbox); have n5_ := As0.mk ((by rw [hg]; exact (bwz (by repeat (first | (with_reducible first | exact HB.out | apply bwa | apply pwN | apply bwd | refine bws ?_ GE604.out) | exact HB.out))) : w.heap.size ≤ gb616)); have n6_ := As0.mk ((by rw [hg]; exact (bwz (by repeat (first | (with_reducible first | exact HB.out | apply bwa | apply pwN | apply bwd | refine bws ?_ GE604.out) | exact HB.out))) : w.heap.size ≤ gb616)); have n7_ := As0.mk ((by rw [hg]; exact Nat.ne_of_lt (blk_lt (g := gb604) (o := .cells #[.int .i64 a0_0, .int .i64 a0_1, .int .i64 a0_2, .slice A0_3 l0_3.length c0_3] 24 (0, 0)) (by (with_reducible repeat (first | refine bkN ?_ _ | refine bkd ?_ | refine bka ?_ _)); exact BK604.out)) : gb604 ≠ gb616)); have n8_ := As0.mk ((by rw [hg]; exact Nat.ne_of_gt (blk_lt (g := gb604) (o := .cells #[.int .i64 a0_0, .int .i64 a0_1, .int .i64 a0_2, .slice A0_3 l0_3.length c0_3] 24 (0, 0)) (by (with_reducible repeat (first | refine bkN ?_ _ | refine bkd ?_ | refine bka ?_ _)); exact BK604.out)) : gb616 ≠ gb604)); clear HO_11; clear HO614; clear BK604; clear HB; have HO_11 := n0_; have HO614 := n1_; have BK604 := n2_; have HB := n3_; have BK616 := n4_; have GW616 := n5_; have GE616 := n6_; have NB604_616 := n7_; have NB616_604 := n8_; clear n0_ n1_ n2_ n3_ n4_ n5_ n6_ n7_ n8_; clear hb hbox hg; have hnb45 := NB616_604.out; have hnc45 := NB604_616.out; have hcz46_0 : w44.cell? ⟨gb616, 0, none⟩ = some (.int .i64 0) := (bkc BK616.out 0).trans rfl; have hcz46_1 : w44.cell? ⟨gb616, 1, none⟩ = some (.int .i64 0) := (bkc BK616.out 1).trans rfl; have hcz46_2 : w44.cell? ⟨gb616, 2, none⟩ = some (.int .i64 0) := (bkc BK616.out 2).trans rfl; have hcz46_3 : w44.cell? ⟨gb616, 3, none⟩ = some (.slice none 0 0) := (bkc BK616.out 3).trans rfl; have hfz46_0 := bkz BK616.out 0; have hfz46_1 := bkz BK616.out 1; have hfz46_2 := bkz BK616.out 2; have hfz46_3 := bkz BK616.out 3; obtain ⟨Ao47, co47, eo47⟩ := Kd.S_slice HO614.out; subst eo47; have hcz48_0 : w44.cell? ⟨gb604, 0, none⟩ = some (.int .i64 a0_0) := (bkc BK604.out 0).trans rfl; have hcz48_1 : w44.cell? ⟨gb604, 1, none⟩ = some (.int .i64 a0_1) := (bkc BK604.out 1).trans rfl; have hcz48_2 : w44.cell? ⟨gb604, 2, none⟩ = some (.int .i64 a0_2) := (bkc BK604.out 2).trans rfl; have hcz48_3 : w44.cell? ⟨gb604, 3, none⟩ = some (.slice A0_3 l0_3.length c0_3) := (bkc BK604.out 3).trans rfl; have hfz48_0 := bkz BK604.out 0; have hfz48_1 := bkz BK604.out 1; have hfz48_2 := bkz BK604.out 2; have hfz48_3 := bkz BK604.out 3) | (go_at_call 15; (with_reducible refine (r00_EqImage.calls k3 t609 t610 t611 _ _ t612 a0_0 a0_1 a0_2 _ _ l0_3 true _ ?side1 ?side2 ?side3 ?side4 A38.out).mono ?_); (case side1 => refine (Kd.S_reads' (e := 39) (base := w.heap.size) (ok := fun k_ => True) (n := t612.length) (c := co47) ?_).2.2; exact (by (with_reducible repeat (first | apply Kd.S_alloc | apply Kd.S_drewN | apply Kd.S_drew)); exact (Kd.S_mono (Kd.S_far (p := ⟨gb616, 3, none⟩) (Kd.S_far (p := ⟨gb616, 2, none⟩) (Kd.S_far (p := ⟨gb616, 1, none⟩) (Kd.S_far (p := ⟨gb616, 0, none⟩) (Kd.S_types HO614.out BK616.out (by decide)) (fun _ hk => hk.2) (.int .i64 t609)) (fun _ hk => hk.2) (.int .i64 t610)) (fun _ hk => hk.2) (.int .i64 t611)) (fun _ hk => hk.2) (.slice Ao47 t612.length co47)) (fun _ h_ => h_.1)))); (case side2 => exact (Kd.S_reads' HO614.out).2.1); (case side3 => exact Kd.C_below HR0_3.out (by repeat (first | (with_reducible first | exact HB.out | apply bwa | apply pwN | apply bwd | refine bws ?_ GE604.out | refine bws ?_ GE616.out) | exact HB.out))); (case side4 => exact HC0_3.out); rintro e w49 ⟨rfl, hb⟩; have n0_ := As0.mk (Kd.R_below (by (with_reducible repeat (first | apply Kd.R_alloc | apply Kd.R_drewN | apply Kd.R_drew)); exact (Kd.R_mono (Kd.R_far (p := ⟨gb616, 3, none⟩) (Kd.R_far (p := ⟨gb616, 2, none⟩) (Kd.R_far (p := ⟨gb616, 1, none⟩) (Kd.R_far (p := ⟨gb616, 0, none⟩) (Kd.R_mono HO_11.out (fun k_ hk => (⟨hk, hk.2⟩ : _ ∧ k_ ≠ gb616))) (fun _ hk => hk.2) (.int .i64 t609)) (fun _ hk => hk.2) (.int .i64 t610)) (fun _ hk => hk.2) (.int .i64 t611)) (fun _ hk => hk.2) (.slice Ao47 t612.length co47)) (fun _ h_ => h_.1))) hb); have n1_ := As0.mk (Kd.S_below (by (with_reducible repeat (first | apply Kd.S_alloc | apply Kd.S_drewN | apply Kd.S_drew)); exact (Kd.S_mono (Kd.S_far (p := ⟨gb616, 3, none⟩) (Kd.S_far (p := ⟨gb616, 2, none⟩) (Kd.S_far (p := ⟨gb616, 1, none⟩) (Kd.S_far (p := ⟨gb616, 0, none⟩) (Kd.S_types HO614.out BK616.out (by decide)) (fun _ hk => hk.2) (.int .i64 t609)) (fun _ hk => hk.2) (.int .i64 t610)) (fun _ hk => hk.2) (.int .i64 t611)) (fun _ hk => hk.2) (.slice Ao47 t612.length co47)) (fun _ h_ => h_.1))) hb); have n2_ := As0.mk (bkb (g := gb604) (o := .cells #[.int .i64 a0_0, .int .i64 a0_1, .int .i64 a0_2, .slice A0_3 l0_3.length c0_3] 24 (0, 0)) (by (with_reducible repeat (first | refine bkN ?_ _ | refine bkd ?_ | refine bka ?_ _)); refine bkf ?_ NB604_616.out _; (with_reducible repeat (first | refine bkN ?_ _ | refine bkd ?_ | refine bka ?_ _)); refine bkf ?_ NB604_616.out _; (with_reducible repeat (first | refine bkN ?_ _ | refine bkd ?_ | refine bka ?_ _)); refine bkf ?_ NB604_616.out _; (with_reducible repeat (first | refine bkN ?_ _ | refine bkd ?_ | refine bka ?_ _)); refine bkf ?_ NB604_616.out _; (with_reducible repeat (first | refine bkN ?_ _ | refine bkd ?_ | refine bka ?_ _)); exact BK604.out) hb); have n3_ := As0.mk (bkb (g := gb616) (o := .cells #[.int .i64 t609, .int .i64 t610, .int .i64 t611, .slice Ao47 t612.length co47] 24 (0, 0)) (by (with_reducible repeat (first | refine bkN ?_ _ | refine bkd ?_ | refine bka ?_ _)); refine blk_put (cs := #[.int .i64 t609, .int .i64 t610, .int .i64 t611, .slice none 0 0]) ?_ 3 _ rfl; (with_reducible repeat (first | refine bkN ?_ _ | refine bkd ?_ | refine bka ?_ _)); refine blk_put (cs := #[.int .i64 t609, .int .i64 t610, .int .i64 0, .slice none 0 0]) ?_ 2 _ rfl; (with_reducible repeat (first | refine bkN ?_ _ | refine bkd ?_ | refine bka ?_ _)); refine blk_put (cs := #[.int .i64 t609, .int .i64 0, .int .i64 0, .slice none 0 0]) ?_ 1 _ rfl; (with_reducible repeat (first | refine bkN ?_ _ | refine bkd ?_ | refine bka ?_ _)); refine blk_put (cs := #[.int .i64 0, .int .i64 0, .int .i64 0, .slice none 0 0]) ?_ 0 _ rfl; (with_reducible repeat (first | refine bkN ?_ _ | refine bkd ?_ | refine bka ?_ _)); exact BK616.out) hb); have n4_ := As0.mk (bwp (by repeat (first | (with_reducible first | exact HB.out | apply bwa | apply pwN | apply bwd | refine bws ?_ GE604.out | refine bws ?_ GE616.out) | exact HB.out)) hb); clear HO_11; clear HO614; clear BK604; clear BK616; clear HB; have HO_11 := n0_; have HO614 := n1_; have BK604 := n2_; have BK616 := n3_; have HB := n4_; clear n0_ n1_ n2_ n3_ n4_; (try clear hb); (try clear hb2); (try clear hk); (try clear hi)) | (go_at_call 16; (with_reducible refine (l15_awake.calls k3  t618 _ A40.out).mono ?_); rintro e w50 ⟨rfl, hb⟩; have n0_ := As0.mk (Kd.R_below (by (with_reducible repeat (first | apply Kd.R_alloc | apply Kd.R_drewN | apply Kd.R_drew)); exact HO_11.out) hb); have n1_ := As0.mk (Kd.S_below (by (with_reducible repeat (first | apply Kd.S_alloc | apply Kd.S_drewN | apply Kd.S_drew)); exact HO614.out) hb); have n2_ := As0.mk (bkb (g := gb604) (o := .cells #[.int .i64 a0_0, .int .i64 a0_1, .int .i64 a0_2, .slice A0_3 l0_3.length c0_3] 24 (0, 0)) (by (with_reducible repeat (first | refine bkN ?_ _ | refine bkd ?_ | refine bka ?_ _)); exact BK604.out) hb); have n3_ := As0.mk (bkb (g := gb616) (o := .cells #[.int .i64 t609, .int .i64 t610, .int .i64 t611, .slice Ao47 t612.length co47] 24 (0, 0)) (by (with_reducible repeat (first | refine bkN ?_ _ | refine bkd ?_ | refine bka ?_ _)); exact BK616.out) hb); have n4_ := As0.mk (bwp (by repeat (first | (with_reducible first | exact HB.out | apply bwa | apply pwN | apply bwd | refine bws ?_ GE604.out | refine bws ?_ GE616.out) | exact HB.out)) hb); clear HO_11; clear HO614; clear BK604; clear BK616; clear HB; have HO_11 := n0_; have HO614 := n1_; have BK604 := n2_; have BK616 := n3_; have HB := n4_; clear n0_ n1_ n2_ n3_ n4_; (try clear hb); (try clear hb2); (try clear hk); (try clear hi)))
                repeat (go_quiet (first | (go_at_call 28; (with_reducible refine (item_Grid.calls k3 _ _ x11_3 (wrap64 (Int.tdiv (wrap64 ((wrap64 (a0_1 + (wrap64 ((Int.tmod (wrap64 (a2)) a0_1) + 1)))) - 1)) (wrap64 ((Int.tmod (wrap64 (a2)) a0_1) + 1)))) (wrap64 (Int.tdiv (wrap64 ((wrap64 (a0_0 + (wrap64 ((Int.tmod (wrap64 (a1)) a0_0) + 1)))) - 1)) (wrap64 ((Int.tmod (wrap64 (a1)) a0_0) + 1)))) a0_0 a0_1 t609 t610 t611 t612 t615 _ ?side1 ?side2 A36.out).mono ?_); (case side1 => repeat (first | exact (Kd.R_reads' HO_11.out).2.2 | (with_reducible refine Kd.C_alloc ?_ _) | (with_reducible refine Kd.C_drewN ?_ _) | (with_reducible refine Kd.C_drew ?_))); (case side2 => exact (Kd.R_reads' HO_11.out).2.1); rintro e w43 ⟨v613, rfl, ho0, hb⟩; have n0_ := As0.mk (Kd.R_elder' (by (with_reducible repeat (first | apply Kd.R_alloc | apply Kd.R_drewN | apply Kd.R_drew)); exact HO_11.out) (Kd.S_base ho0) hb); have n1_ := As0.mk (Kd.S_lower ho0 (bwz (by repeat (first | (with_reducible first | exact HB.out | apply bwa | apply pwN | apply bwd | refine bws ?_ GE604.out) | exact HB.out)))); have n2_ := As0.mk (bkb (g := gb604) (o := .cells #[.int .i64 a0_0, .int .i64 a0_1, .int .i64 a0_2, .slice A0_3 l0_3.length c0_3] 24 (0, 0)) (by (with_reducible repeat (first | refine bkN ?_ _ | refine bkd ?_ | refine bka ?_ _)); exact BK604.out) hb); have n3_ := As0.mk (bwp (by repeat (first | (with_reducible first | exact HB.out | apply bwa | apply pwN | apply bwd | refine bws ?_ GE604.out) | exact HB.out)) hb); clear HO_11; clear BK604; clear HB; have HO_11 := n0_; have HO614 := n1_; have BK604 := n2_; have HB := n3_; clear n0_ n1_ n2_ n3_; (try clear hb); (try clear hb2); (try clear hk); (try clear hi); (try clear ho0)) | ((with_reducible refine gdt (N := 14) rfl ?_); refine bxe ?hg (N := 14) ?hd (cs := #[.int .i64 0, .int .i64 0, .int .i64 0, .slice none 0 0]) (t := 24) ?hr ?_; (case hd => rfl); (case hg => rfl); (case hr => first | (go_simp; done) | (go_simp; rfl)); intro gb616 hg w44 hbox hb; have n0_ := As0.mk (Kd.R_below (Kd.R_elderB (by (with_reducible repeat (first | apply Kd.R_alloc | apply Kd.R_drewN | apply Kd.R_drew)); exact HO_11.out) gb616 (Nat.le_of_eq hg.symm)) hb); have n1_ := As0.mk (Kd.S_below (by (with_reducible repeat (first | apply Kd.S_alloc | apply Kd.S_drewN | apply Kd.S_drew)); exact HO614.out) hb); have n2_ := As0.mk (bkb (g := gb604) (o := .cells #[.int .i64 a0_0, .int .i64 a0_1, .int .i64 a0_2, .slice A0_3 l0_3.length c0_3] 24 (0, 0)) (by (with_reducible repeat (first | refine bkN ?_ _ | refine bkd ?_ | refine bka ?_ _)); exact BK604.out) hb); have n3_ := As0.mk (bwp (by repeat (first | (with_reducible first | exact HB.out | apply bwa | apply pwN | apply bwd | refine bws ?_ GE604.out) | exact HB.out)) hb); have n4_ := As0.mk (hbox); have n5_ := As0.mk ((by rw [hg]; exact (bwz (by repeat (first | (with_reducible first | exact HB.out | apply bwa | apply pwN | apply bwd | refine bws ?_ GE604.out) | exact HB.out))) : w.heap.size ≤ gb616)); have n6_ := As0.mk ((by rw [hg]; exact (bwz (by repeat (first | (with_reducible first | exact HB.out | apply bwa | apply pwN | apply bwd | refine bws ?_ GE604.out) | exact HB.out))) : w.heap.size ≤ gb616)); have n7_ := As0.mk ((by rw [hg]; exact Nat.ne_of_lt (blk_lt (g := gb604) (o := .cells #[.int .i64 a0_0, .int .i64 a0_1, .int .i64 a0_2, .slice A0_3 l0_3.length c0_3] 24 (0, 0)) (by (with_reducible repeat (first | refine bkN ?_ _ | refine bkd ?_ | refine bka ?_ _)); exact BK604.out)) : gb604 ≠ gb616)); have n8_ := As0.mk ((by rw [hg]; exact Nat.ne_of_gt (blk_lt (g := gb604) (o := .cells #[.int .i64 a0_0, .int .i64 a0_1, .int .i64 a0_2, .slice A0_3 l0_3.length c0_3] 24 (0, 0)) (by (with_reducible repeat (first | refine bkN ?_ _ | refine bkd ?_ | refine bka ?_ _)); exact BK604.out)) : gb616 ≠ gb604)); clear HO_11; clear HO614; clear BK604; clear HB; have HO_11 := n0_; have HO614 := n1_; have BK604 := n2_; have HB := n3_; have BK616 := n4_; have GW616 := n5_; have GE616 := n6_; have NB604_616 := n7_; have NB616_604 := n8_; clear n0_ n1_ n2_ n3_ n4_ n5_ n6_ n7_ n8_; clear hb hbox hg; have hnb45 := NB616_604.out; have hnc45 := NB604_616.out; have hcz46_0 : w44.cell? ⟨gb616, 0, none⟩ = some (.int .i64 0) := (bkc BK616.out 0).trans rfl; have hcz46_1 : w44.cell? ⟨gb616, 1, none⟩ = some (.int .i64 0) := (bkc BK616.out 1).trans rfl; have hcz46_2 : w44.cell? ⟨gb616, 2, none⟩ = some (.int .i64 0) := (bkc BK616.out 2).trans rfl; have hcz46_3 : w44.cell? ⟨gb616, 3, none⟩ = some (.slice none 0 0) := (bkc BK616.out 3).trans rfl; have hfz46_0 := bkz BK616.out 0; have hfz46_1 := bkz BK616.out 1; have hfz46_2 := bkz BK616.out 2; have hfz46_3 := bkz BK616.out 3; obtain ⟨Ao47, co47, eo47⟩ := Kd.S_slice HO614.out; subst eo47; have hcz48_0 : w44.cell? ⟨gb604, 0, none⟩ = some (.int .i64 a0_0) := (bkc BK604.out 0).trans rfl; have hcz48_1 : w44.cell? ⟨gb604, 1, none⟩ = some (.int .i64 a0_1) := (bkc BK604.out 1).trans rfl; have hcz48_2 : w44.cell? ⟨gb604, 2, none⟩ = some (.int .i64 a0_2) := (bkc BK604.out 2).trans rfl; have hcz48_3 : w44.cell? ⟨gb604, 3, none⟩ = some (.slice A0_3 l0_3.length c0_3) := (bkc BK604.out 3).trans rfl; have hfz48_0 := bkz BK604.out 0; have hfz48_1 := bkz BK604.out 1; have hfz48_2 := bkz BK604.out 2; have hfz48_3 := bkz BK604.out 3) | (go_at_call 15; (with_reducible refine (r00_EqImage.calls k3 t609 t610 t611 _ _ t612 a0_0 a0_1 a0_2 _ _ l0_3 true _ ?side1 ?side2 ?side3 ?side4 A38.out).mono ?_); (case side1 => refine (Kd.S_reads' (e := 39) (base := w.heap.size) (ok := fun k_ => True) (n := t612.length) (c := co47) ?_).2.2; exact (by (with_reducible repeat (first | apply Kd.S_alloc | apply Kd.S_drewN | apply Kd.S_drew)); exact (Kd.S_mono (Kd.S_far (p := ⟨gb616, 3, none⟩) (Kd.S_far (p := ⟨gb616, 2, none⟩) (Kd.S_far (p := ⟨gb616, 1, none⟩) (Kd.S_far (p := ⟨gb616, 0, none⟩) (Kd.S_types HO614.out BK616.out (by decide)) (fun _ hk => hk.2) (.int .i64 t609)) (fun _ hk => hk.2) (.int .i64 t610)) (fun _ hk => hk.2) (.int .i64 t611)) (fun _ hk => hk.2) (.slice Ao47 t612.length co47)) (fun _ h_ => h_.1)))); (case side2 => exact (Kd.S_reads' HO614.out).2.1); (case side3 => exact Kd.C_below HR0_3.out (by repeat (first | (with_reducible first | exact HB.out | apply bwa | apply pwN | apply bwd | refine bws ?_ GE604.out | refine bws ?_ GE616.out) | exact HB.out))); (case side4 => exact HC0_3.out); rintro e w49 ⟨rfl, hb⟩; have n0_ := As0.mk (Kd.R_below (by (with_reducible repeat (first | apply Kd.R_alloc | apply Kd.R_drewN | apply Kd.R_drew)); exact (Kd.R_mono (Kd.R_far (p := ⟨gb616, 3, none⟩) (Kd.R_far (p := ⟨gb616, 2, none⟩) (Kd.R_far (p := ⟨gb616, 1, none⟩) (Kd.R_far (p := ⟨gb616, 0, none⟩) (Kd.R_mono HO_11.out (fun k_ hk => (⟨hk, hk.2⟩ : _ ∧ k_ ≠ gb616))) (fun _ hk => hk.2) (.int .i64 t609)) (fun _ hk => hk.2) (.int .i64 t610)) (fun _ hk => hk.2) (.int .i64 t611)) (fun _ hk => hk.2) (.slice Ao47 t612.length co47)) (fun _ h_ => h_.1))) hb); have n1_ := As0.mk (Kd.S_below (by (with_reducible repeat (first | apply Kd.S_alloc | apply Kd.S_drewN | apply Kd.S_drew)); exact (Kd.S_mono (Kd.S_far (p := ⟨gb616, 3, none⟩) (Kd.S_far (p := ⟨gb616, 2, none⟩) (Kd.S_far (p := ⟨gb616, 1, none⟩) (Kd.S_far (p := ⟨gb616, 0, none⟩) (Kd.S_types HO614.out BK616.out (by decide)) (fun _ hk => hk.2) (.int .i64 t609)) (fun _ hk => hk.2) (.int .i64 t610)) (fun _ hk => hk.2) (.int .i64 t611)) (fun _ hk => hk.2) (.slice Ao47 t612.length co47)) (fun _ h_ => h_.1))) hb); have n2_ := As0.mk (bkb (g := gb604) (o := .cells #[.int .i64 a0_0, .int .i64 a0_1, .int .i64 a0_2, .slice A0_3 l0_3.length c0_3] 24 (0, 0)) (by (with_reducible repeat (first | refine bkN ?_ _ | refine bkd ?_ | refine bka ?_ _)); refine bkf ?_ NB604_616.out _; (with_reducible repeat (first | refine bkN ?_ _ | refine bkd ?_ | refine bka ?_ _)); refine bkf ?_ NB604_616.out _; (with_reducible repeat (first | refine bkN ?_ _ | refine bkd ?_ | refine bka ?_ _)); refine bkf ?_ NB604_616.out _; (with_reducible repeat (first | refine bkN ?_ _ | refine bkd ?_ | refine bka ?_ _)); refine bkf ?_ NB604_616.out _; (with_reducible repeat (first | refine bkN ?_ _ | refine bkd ?_ | refine bka ?_ _)); exact BK604.out) hb); have n3_ := As0.mk (bkb (g := gb616) (o := .cells #[.int .i64 t609, .int .i64 t610, .int .i64 t611, .slice Ao47 t612.length co47] 24 (0, 0)) (by (with_reducible repeat (first | refine bkN ?_ _ | refine bkd ?_ | refine bka ?_ _)); refine blk_put (cs := #[.int .i64 t609, .int .i64 t610, .int .i64 t611, .slice none 0 0]) ?_ 3 _ rfl; (with_reducible repeat (first | refine bkN ?_ _ | refine bkd ?_ | refine bka ?_ _)); refine blk_put (cs := #[.int .i64 t609, .int .i64 t610, .int .i64 0, .slice none 0 0]) ?_ 2 _ rfl; (with_reducible repeat (first | refine bkN ?_ _ | refine bkd ?_ | refine bka ?_ _)); refine blk_put (cs := #[.int .i64 t609, .int .i64 0, .int .i64 0, .slice none 0 0]) ?_ 1 _ rfl; (with_reducible repeat (first | refine bkN ?_ _ | refine bkd ?_ | refine bka ?_ _)); refine blk_put (cs := #[.int .i64 0, .int .i64 0, .int .i64 0, .slice none 0 0]) ?_ 0 _ rfl; (with_reducible repeat (first | refine bkN ?_ _ | refine bkd ?_ | refine bka ?_ _)); exact BK616.out) hb); have n4_ := As0.mk (bwp (by repeat (first | (with_reducible first | exact HB.out | apply bwa | apply pwN | apply bwd | refine bws ?_ GE604.out | refine bws ?_ GE616.out) | exact HB.out)) hb); clear HO_11; clear HO614; clear BK604; clear BK616; clear HB; have HO_11 := n0_; have HO614 := n1_; have BK604 := n2_; have BK616 := n3_; have HB := n4_; clear n0_ n1_ n2_ n3_ n4_; (try clear hb); (try clear hb2); (try clear hk); (try clear hi)) | (go_at_call 16; (with_reducible refine (l15_awake.calls k3  t618 _ A40.out).mono ?_); rintro e w50 ⟨rfl, hb⟩; have n0_ := As0.mk (Kd.R_below (by (with_reducible repeat (first | apply Kd.R_alloc | apply Kd.R_drewN | apply Kd.R_drew)); exact HO_11.out) hb); have n1_ := As0.mk (Kd.S_below (by (with_reducible repeat (first | apply Kd.S_alloc | apply Kd.S_drewN | apply Kd.S_drew)); exact HO614.out) hb); have n2_ := As0.mk (bkb (g := gb604) (o := .cells #[.int .i64 a0_0, .int .i64 a0_1, .int .i64 a0_2, .slice A0_3 l0_3.length c0_3] 24 (0, 0)) (by (with_reducible repeat (first | refine bkN ?_ _ | refine bkd ?_ | refine bka ?_ _)); exact BK604.out) hb); have n3_ := As0.mk (bkb (g := gb616) (o := .cells #[.int .i64 t609, .int .i64 t610, .int .i64 t611, .slice Ao47 t612.length co47] 24 (0, 0)) (by (with_reducible repeat (first | refine bkN ?_ _ | refine bkd ?_ | refine bka ?_ _)); exact BK616.out) hb); have n4_ := As0.mk (bwp (by repeat (first | (with_reducible first | exact HB.out | apply bwa | apply pwN | apply bwd | refine bws ?_ GE604.out | refine bws ?_ GE616.out) | exact HB.out)) hb); clear HO_11; clear HO614; clear BK604; clear BK616; clear HB; have HO_11 := n0_; have HO614 := n1_; have BK604 := n2_; have BK616 := n3_; have HB := n4_; clear n0_ n1_ n2_ n3_ n4_; (try clear hb); (try clear hb2); (try clear hk); (try clear hi))); try go_wp2_with (first | (go_at_call 28; (with_reducible refine (item_Grid.calls k3 _ _ x11_3 (wrap64 (Int.tdiv (wrap64 ((wrap64 (a0_1 + (wrap64 ((Int.tmod (wrap64 (a2)) a0_1) + 1)))) - 1)) (wrap64 ((Int.tmod (wrap64 (a2)) a0_1) + 1)))) (wrap64 (Int.tdiv (wrap64 ((wrap64 (a0_0 + (wrap64 ((Int.tmod (wrap64 (a1)) a0_0) + 1)))) - 1)) (wrap64 ((Int.tmod (wrap64 (a1)) a0_0) + 1)))) a0_0 a0_1 t609 t610 t611 t612 t615 _ ?side1 ?side2 A36.out).mono ?_); (case side1 => repeat (first | exact (Kd.R_reads' HO_11.out).2.2 | (with_reducible refine Kd.C_alloc ?_ _) | (with_reducible refine Kd.C_drewN ?_ _) | (with_reducible refine Kd.C_drew ?_))); (case side2 => exact (Kd.R_reads' HO_11.out).2.1); rintro e w43 ⟨v613, rfl, ho0, hb⟩; have n0_ := As0.mk (Kd.R_elder' (by (with_reducible repeat (first | apply Kd.R_alloc | apply Kd.R_drewN | apply Kd.R_drew)); exact HO_11.out) (Kd.S_base ho0) hb); have n1_ := As0.mk (Kd.S_lower ho0 (bwz (by repeat (first | (with_reducible first | exact HB.out | apply bwa | apply pwN | apply bwd | refine bws ?_ GE604.out) | exact HB.out)))); have n2_ := As0.mk (bkb (g := gb604) (o := .cells #[.int .i64 a0_0, .int .i64 a0_1, .int .i64 a0_2, .slice A0_3 l0_3.length c0_3] 24 (0, 0)) (by (with_reducible repeat (first | refine bkN ?_ _ | refine bkd ?_ | refine bka ?_ _)); exact BK604.out) hb); have n3_ := As0.mk (bwp (by repeat (first | (with_reducible first | exact HB.out | apply bwa | apply pwN | apply bwd | refine bws ?_ GE604.out) | exact HB.out)) hb); clear HO_11; clear BK604; clear HB; have HO_11 := n0_; have HO614 := n1_; have BK604 := n2_; have HB := n3_; clear n0_ n1_ n2_ n3_; (try clear hb); (try clear hb2); (try clear hk); (try clear hi); (try clear ho0)) | ((with_reducible refine gdt (N := 14) rfl ?_); refine bxe ?hg (N := 14) ?hd (cs := #[.int .i64 0, .int .i64 0, .int .i64 0, .slice none 0 0]) (t := 24) ?hr ?_; (case hd => rfl); (case hg => rfl); (case hr => first | (go_simp; done) | (go_simp; rfl)); intro gb616 hg w44 hbox hb; have n0_ := As0.mk (Kd.R_below (Kd.R_elderB (by (with_reducible repeat (first | apply Kd.R_alloc | apply Kd.R_drewN | apply Kd.R_drew)); exact HO_11.out) gb616 (Nat.le_of_eq hg.symm)) hb); have n1_ := As0.mk (Kd.S_below (by (with_reducible repeat (first | apply Kd.S_alloc | apply Kd.S_drewN | apply Kd.S_drew)); exact HO614.out) hb); have n2_ := As0.mk (bkb (g := gb604) (o := .cells #[.int .i64 a0_0, .int .i64 a0_1, .int .i64 a0_2, .slice A0_3 l0_3.length c0_3] 24 (0, 0)) (by (with_reducible repeat (first | refine bkN ?_ _ | refine bkd ?_ | refine bka ?_ _)); exact BK604.out) hb); have n3_ := As0.mk (bwp (by repeat (first | (with_reducible first | exact HB.out | apply bwa | apply pwN | apply bwd | refine bws ?_ GE604.out) | exact HB.out)) hb); have n4_ := As0.mk (hbox); have n5_ := As0.mk ((by rw [hg]; exact (bwz (by repeat (first | (with_reducible first | exact HB.out | apply bwa | apply pwN | apply bwd | refine bws ?_ GE604.out) | exact HB.out))) : w.heap.size ≤ gb616)); have n6_ := As0.mk ((by rw [hg]; exact (bwz (by repeat (first | (with_reducible first | exact HB.out | apply bwa | apply pwN | apply bwd | refine bws ?_ GE604.out) | exact HB.out))) : w.heap.size ≤ gb616)); have n7_ := As0.mk ((by rw [hg]; exact Nat.ne_of_lt (blk_lt (g := gb604) (o := .cells #[.int .i64 a0_0, .int .i64 a0_1, .int .i64 a0_2, .slice A0_3 l0_3.length c0_3] 24 (0, 0)) (by (with_reducible repeat (first | refine bkN ?_ _ | refine bkd ?_ | refine bka ?_ _)); exact BK604.out)) : gb604 ≠ gb616)); have n8_ := As0.mk ((by rw [hg]; exact Nat.ne_of_gt (blk_lt (g := gb604) (o := .cells #[.int .i64 a0_0, .int .i64 a0_1, .int .i64 a0_2, .slice A0_3 l0_3.length c0_3] 24 (0, 0)) (by (with_reducible repeat (first | refine bkN ?_ _ | refine bkd ?_ | refine bka ?_ _)); exact BK604.out)) : gb616 ≠ gb604)); clear HO_11; clear HO614; clear BK604; clear HB; have HO_11 := n0_; have HO614 := n1_; have BK604 := n2_; have HB := n3_; have BK616 := n4_; have GW616 := n5_; have GE616 := n6_; have NB604_616 := n7_; have NB616_604 := n8_; clear n0_ n1_ n2_ n3_ n4_ n5_ n6_ n7_ n8_; clear hb hbox hg; have hnb45 := NB616_604.out; have hnc45 := NB604_616.out; have hcz46_0 : w44.cell? ⟨gb616, 0, none⟩ = some (.int .i64 0) := (bkc BK616.out 0).trans rfl; have hcz46_1 : w44.cell? ⟨gb616, 1, none⟩ = some (.int .i64 0) := (bkc BK616.out 1).trans rfl; have hcz46_2 : w44.cell? ⟨gb616, 2, none⟩ = some (.int .i64 0) := (bkc BK616.out 2).trans rfl; have hcz46_3 : w44.cell? ⟨gb616, 3, none⟩ = some (.slice none 0 0) := (bkc BK616.out 3).trans rfl; have hfz46_0 := bkz BK616.out 0; have hfz46_1 := bkz BK616.out 1; have hfz46_2 := bkz BK616.out 2; have hfz46_3 := bkz BK616.out 3; obtain ⟨Ao47, co47, eo47⟩ := Kd.S_slice HO614.out; subst eo47; have hcz48_0 : w44.cell? ⟨gb604, 0, none⟩ = some (.int .i64 a0_0) := (bkc BK604.out 0).trans rfl; have hcz48_1 : w44.cell? ⟨gb604, 1, none⟩ = some (.int .i64 a0_1) := (bkc BK604.out 1).trans rfl; have hcz48_2 : w44.cell? ⟨gb604, 2, none⟩ = some (.int .i64 a0_2) := (bkc BK604.out 2).trans rfl; have hcz48_3 : w44.cell? ⟨gb604, 3, none⟩ = some (.slice A0_3 l0_3.length c0_3) := (bkc BK604.out 3).trans rfl; have hfz48_0 := bkz BK604.out 0; have hfz48_1 := bkz BK604.out 1; have hfz48_2 := bkz BK604.out 2; have hfz48_3 := bkz BK604.out 3) | (go_at_call 15; (with_reducible refine (r00_EqImage.calls k3 t609 t610 t611 _ _ t612 a0_0 a0_1 a0_2 _ _ l0_3 true _ ?side1 ?side2 ?side3 ?side4 A38.out).mono ?_); (case side1 => refine (Kd.S_reads' (e := 39) (base := w.heap.size) (ok := fun k_ => True) (n := t612.length) (c := co47) ?_).2.2; exact (by (with_reducible repeat (first | apply Kd.S_alloc | apply Kd.S_drewN | apply Kd.S_drew)); exact (Kd.S_mono (Kd.S_far (p := ⟨gb616, 3, none⟩) (Kd.S_far (p := ⟨gb616, 2, none⟩) (Kd.S_far (p := ⟨gb616, 1, none⟩) (Kd.S_far (p := ⟨gb616, 0, none⟩) (Kd.S_types HO614.out BK616.out (by decide)) (fun _ hk => hk.2) (.int .i64 t609)) (fun _ hk => hk.2) (.int .i64 t610)) (fun _ hk => hk.2) (.int .i64 t611)) (fun _ hk => hk.2) (.slice Ao47 t612.length co47)) (fun _ h_ => h_.1)))); (case side2 => exact (Kd.S_reads' HO614.out).2.1); (case side3 => exact Kd.C_below HR0_3.out (by repeat (first | (with_reducible first | exact HB.out | apply bwa | apply pwN | apply bwd | refine bws ?_ GE604.out | refine bws ?_ GE616.out) | exact HB.out))); (case side4 => exact HC0_3.out); rintro e w49 ⟨rfl, hb⟩; have n0_ := As0.mk (Kd.R_below (by (with_reducible repeat (first | apply Kd.R_alloc | apply Kd.R_drewN | apply Kd.R_drew)); exact (Kd.R_mono (Kd.R_far (p := ⟨gb616, 3, none⟩) (Kd.R_far (p := ⟨gb616, 2, none⟩) (Kd.R_far (p := ⟨gb616, 1, none⟩) (Kd.R_far (p := ⟨gb616, 0, none⟩) (Kd.R_mono HO_11.out (fun k_ hk => (⟨hk, hk.2⟩ : _ ∧ k_ ≠ gb616))) (fun _ hk => hk.2) (.int .i64 t609)) (fun _ hk => hk.2) (.int .i64 t610)) (fun _ hk => hk.2) (.int .i64 t611)) (fun _ hk => hk.2) (.slice Ao47 t612.length co47)) (fun _ h_ => h_.1))) hb); have n1_ := As0.mk (Kd.S_below (by (with_reducible repeat (first | apply Kd.S_alloc | apply Kd.S_drewN | apply Kd.S_drew)); exact (Kd.S_mono (Kd.S_far (p := ⟨gb616, 3, none⟩) (Kd.S_far (p := ⟨gb616, 2, none⟩) (Kd.S_far (p := ⟨gb616, 1, none⟩) (Kd.S_far (p := ⟨gb616, 0, none⟩) (Kd.S_types HO614.out BK616.out (by decide)) (fun _ hk => hk.2) (.int .i64 t609)) (fun _ hk => hk.2) (.int .i64 t610)) (fun _ hk => hk.2) (.int .i64 t611)) (fun _ hk => hk.2) (.slice Ao47 t612.length co47)) (fun _ h_ => h_.1))) hb); have n2_ := As0.mk (bkb (g := gb604) (o := .cells #[.int .i64 a0_0, .int .i64 a0_1, .int .i64 a0_2, .slice A0_3 l0_3.length c0_3] 24 (0, 0)) (by (with_reducible repeat (first | refine bkN ?_ _ | refine bkd ?_ | refine bka ?_ _)); refine bkf ?_ NB604_616.out _; (with_reducible repeat (first | refine bkN ?_ _ | refine bkd ?_ | refine bka ?_ _)); refine bkf ?_ NB604_616.out _; (with_reducible repeat (first | refine bkN ?_ _ | refine bkd ?_ | refine bka ?_ _)); refine bkf ?_ NB604_616.out _; (with_reducible repeat (first | refine bkN ?_ _ | refine bkd ?_ | refine bka ?_ _)); refine bkf ?_ NB604_616.out _; (with_reducible repeat (first | refine bkN ?_ _ | refine bkd ?_ | refine bka ?_ _)); exact BK604.out) hb); have n3_ := As0.mk (bkb (g := gb616) (o := .cells #[.int .i64 t609, .int .i64 t610, .int .i64 t611, .slice Ao47 t612.length co47] 24 (0, 0)) (by (with_reducible repeat (first | refine bkN ?_ _ | refine bkd ?_ | refine bka ?_ _)); refine blk_put (cs := #[.int .i64 t609, .int .i64 t610, .int .i64 t611, .slice none 0 0]) ?_ 3 _ rfl; (with_reducible repeat (first | refine bkN ?_ _ | refine bkd ?_ | refine bka ?_ _)); refine blk_put (cs := #[.int .i64 t609, .int .i64 t610, .int .i64 0, .slice none 0 0]) ?_ 2 _ rfl; (with_reducible repeat (first | refine bkN ?_ _ | refine bkd ?_ | refine bka ?_ _)); refine blk_put (cs := #[.int .i64 t609, .int .i64 0, .int .i64 0, .slice none 0 0]) ?_ 1 _ rfl; (with_reducible repeat (first | refine bkN ?_ _ | refine bkd ?_ | refine bka ?_ _)); refine blk_put (cs := #[.int .i64 0, .int .i64 0, .int .i64 0, .slice none 0 0]) ?_ 0 _ rfl; (with_reducible repeat (first | refine bkN ?_ _ | refine bkd ?_ | refine bka ?_ _)); exact BK616.out) hb); have n4_ := As0.mk (bwp (by repeat (first | (with_reducible first | exact HB.out | apply bwa | apply pwN | apply bwd | refine bws ?_ GE604.out | refine bws ?_ GE616.out) | exact HB.out)) hb); clear HO_11; clear HO614; clear BK604; clear BK616; clear HB; have HO_11 := n0_; have HO614 := n1_; have BK604 := n2_; have BK616 := n3_; have HB := n4_; clear n0_ n1_ n2_ n3_ n4_; (try clear hb); (try clear hb2); (try clear hk); (try clear hi)) | (go_at_call 16; (with_reducible refine (l15_awake.calls k3  t618 _ A40.out).mono ?_); rintro e w50 ⟨rfl, hb⟩; have n0_ := As0.mk (Kd.R_below (by (with_reducible repeat (first | apply Kd.R_alloc | apply Kd.R_drewN | apply Kd.R_drew)); exact HO_11.out) hb); have n1_ := As0.mk (Kd.S_below (by (with_reducible repeat (first | apply Kd.S_alloc | apply Kd.S_drewN | apply Kd.S_drew)); exact HO614.out) hb); have n2_ := As0.mk (bkb (g := gb604) (o := .cells #[.int .i64 a0_0, .int .i64 a0_1, .int .i64 a0_2, .slice A0_3 l0_3.length c0_3] 24 (0, 0)) (by (with_reducible repeat (first | refine bkN ?_ _ | refine bkd ?_ | refine bka ?_ _)); exact BK604.out) hb); have n3_ := As0.mk (bkb (g := gb616) (o := .cells #[.int .i64 t609, .int .i64 t610, .int .i64 t611, .slice Ao47 t612.length co47] 24 (0, 0)) (by (with_reducible repeat (first | refine bkN ?_ _ | refine bkd ?_ | refine bka ?_ _)); exact BK616.out) hb); have n4_ := As0.mk (bwp (by repeat (first | (with_reducible first | exact HB.out | apply bwa | apply pwN | apply bwd | refine bws ?_ GE604.out | refine bws ?_ GE616.out) | exact HB.out)) hb); clear HO_11; clear HO614; clear BK604; clear BK616; clear HB; have HO_11 := n0_; have HO614 := n1_; have BK604 := n2_; have BK616 := n3_; have HB := n4_; clear n0_ n1_ n2_ n3_ n4_; (try clear hb); (try clear hb2); (try clear hk); (try clear hi))))
                go_ret
                exact ⟨by first | rfl | (simp [errW_none, errW_some] <;> rfl) | (simp [*, errW_none, errW_some] <;> rfl), by repeat (first | (with_reducible first | exact HB.out | apply bwa | apply pwN | apply bwd | refine bws ?_ GE604.out | refine bws ?_ GE616.out) | exact HB.out)⟩
               ·replace c39 := Bool.eq_false_iff.mpr c39
                subst c39
                have H1 : (some false) = some r := by rw [if_neg (show ¬ (false = true) by decide)] at H; exact H
                clear H
                have H := H1
                clear H1
                obtain rfl := Option.some.inj H
                have hcz51_0 : wr.cell? ⟨gb604, 0, none⟩ = some (.int .i64 a0_0) := (bkc BK604.out 0).trans rfl
                have hcz51_1 : wr.cell? ⟨gb604, 1, none⟩ = some (.int .i64 a0_1) := (bkc BK604.out 1).trans rfl
                have hcz51_2 : wr.cell? ⟨gb604, 2, none⟩ = some (.int .i64 a0_2) := (bkc BK604.out 2).trans rfl
                have hcz51_3 : wr.cell? ⟨gb604, 3, none⟩ = some (.slice A0_3 l0_3.length c0_3) := (bkc BK604.out 3).trans rfl
                have hfz51_0 := bkz BK604.out 0
                have hfz51_1 := bkz BK604.out 1
                have hfz51_2 := bkz BK604.out 2
                have hfz51_3 := bkz BK604.out 3
                obtain ⟨Ao52, co52, eo52⟩ := Kd.R_slice HO_11.out
                subst eo52
                go_wp2_with (first | (go_at_call 28; (with_reducible refine (item_Grid.calls k3 _ _ x11_3 (wrap64 (Int.tdiv (wrap64 ((wrap64 (a0_1 + (wrap64 ((Int.tmod (wrap64 (a2)) a0_1) + 1)))) - 1)) (wrap64 ((Int.tmod (wrap64 (a2)) a0_1) + 1)))) (wrap64 (Int.tdiv (wrap64 ((wrap64 (a0_0 + (wrap64 ((Int.tmod (wrap64 (a1)) a0_0) + 1)))) - 1)) (wrap64 ((Int.tmod (wrap64 (a1)) a0_0) + 1)))) a0_0 a0_1 t609 t610 t611 t612 t615 _ ?side1 ?side2 A36.out).mono ?_); (case side1 => repeat (first | exact (Kd.R_reads' HO_11.out).2.2 | (with_reducible refine Kd.C_alloc ?_ _) | (with_reducible refine Kd.C_drewN ?_ _) | (with_reducible refine Kd.C_drew ?_))); (case side2 => exact (Kd.R_reads' HO_11.out).2.1); rintro e w53 ⟨v613, rfl, ho0, hb⟩; have n0_ := As0.mk (Kd.R_elder' (by (with_reducible repeat (first | apply Kd.R_alloc | apply Kd.R_drewN | apply Kd.R_drew)); exact HO_11.out) (Kd.S_base ho0) hb); have n1_ := As0.mk (Kd.S_lower ho0 (bwz (by repeat (first | (with_reducible first | exact HB.out | apply bwa | apply pwN | apply bwd | refine bws ?_ GE604.out) | exact HB.out)))); have n2_ := As0.mk (bkb (g := gb604) (o := .cells #[.int .i64 a0_0, .int .i64 a0_1, .int .i64 a0_2, .slice A0_3 l0_3.length c0_3] 24 (0, 0)) (by (with_reducible repeat (first | refine bkN ?_ _ | refine bkd ?_ | refine bka ?_ _)); exact BK604.out) hb); have n3_ := As0.mk (bwp (by repeat (first | (with_reducible first | exact HB.out | apply bwa | apply pwN | apply bwd | refine bws ?_ GE604.out) | exact HB.out)) hb); clear HO_11; clear BK604; clear HB; have HO_11 := n0_; have HO614 := n1_; have BK604 := n2_; have HB := n3_; clear n0_ n1_ n2_ n3_; (try clear hb); (try clear hb2); (try clear hk); (try clear hi); (try clear ho0)) | ((with_reducible refine gdt (N := 14) rfl ?_); refine bxe ?hg (N := 14) ?hd (cs := #[.int .i64 0, .int .i64 0, .int .i64 0, .slice none 0 0]) (t := 24) ?hr ?_; (case hd => rfl); (case hg => rfl); (case hr => first | (go_simp; done) | (go_simp; rfl)); intro gb616 hg w54 hbox hb; have n0_ := As0.mk (Kd.R_below (Kd.R_elderB (by (with_reducible repeat (first | apply Kd.R_alloc | apply Kd.R_drewN | apply Kd.R_drew)); exact HO_11.out) gb616 (Nat.le_of_eq hg.symm)) hb); have n1_ := As0.mk (Kd.S_below (by (with_reducible repeat (first | apply Kd.S_alloc | apply Kd.S_drewN | apply Kd.S_drew)); exact HO614.out) hb); have n2_ := As0.mk (bkb (g := gb604) (o := .cells #[.int .i64 a0_0, .int .i64 a0_1, .int .i64 a0_2, .slice A0_3 l0_3.length c0_3] 24 (0, 0)) (by (with_reducible repeat (first | refine bkN ?_ _ | refine bkd ?_ | refine bka ?_ _)); exact BK604.out) hb); have n3_ := As0.mk (bwp (by repeat (first | (with_reducible first | exact HB.out | apply bwa | apply pwN | apply bwd | refine bws ?_ GE604.out) | exact HB.out)) hb); have n4_ := As0.mk (hbox); have n5_ := As0.mk ((by rw [hg]; exact (bwz (by repeat (first | (with_reducible first | exact HB.out | apply bwa | apply pwN | apply bwd | refine bws ?_ GE604.out) | exact HB.out))) : w.heap.size ≤ gb616)); have n6_ := As0.mk ((by rw [hg]; exact (bwz (by repeat (first | (with_reducible first | exact HB.out | apply bwa | apply pwN | apply bwd | refine bws ?_ GE604.out) | exact HB.out))) : w.heap.size ≤ gb616)); have n7_ := As0.mk ((by rw [hg]; exact Nat.ne_of_lt (blk_lt (g := gb604) (o := .cells #[.int .i64 a0_0, .int .i64 a0_1, .int .i64 a0_2, .slice A0_3 l0_3.length c0_3] 24 (0, 0)) (by (with_reducible repeat (first | refine bkN ?_ _ | refine bkd ?_ | refine bka ?_ _)); exact BK604.out)) : gb604 ≠ gb616)); have n8_ := As0.mk ((by rw [hg]; exact Nat.ne_of_gt (blk_lt (g := gb604) (o := .cells #[.int .i64 a0_0, .int .i64 a0_1, .int .i64 a0_2, .slice A0_3 l0_3.length c0_3] 24 (0, 0)) (by (with_reducible repeat (first | refine bkN ?_ _ | refine bkd ?_ | refine bka ?_ _)); exact BK604.out)) : gb616 ≠ gb604)); clear HO_11; clear HO614; clear BK604; clear HB; have HO_11 := n0_; have HO614 := n1_; have BK604 := n2_; have HB := n3_; have BK616 := n4_; have GW616 := n5_; have GE616 := n6_; have NB604_616 := n7_; have NB616_604 := n8_; clear n0_ n1_ n2_ n3_ n4_ n5_ n6_ n7_ n8_; clear hb hbox hg; have hnb55 := NB616_604.out; have hnc55 := NB604_616.out; have hcz56_0 : w54.cell? ⟨gb616, 0, none⟩ = some (.int .i64 0) := (bkc BK616.out 0).trans rfl; have hcz56_1 : w54.cell? ⟨gb616, 1, none⟩ = some (.int .i64 0) := (bkc BK616.out 1).trans rfl; have hcz56_2 : w54.cell? ⟨gb616, 2, none⟩ = some (.int .i64 0) := (bkc BK616.out 2).trans rfl; have hcz56_3 : w54.cell? ⟨gb616, 3, none⟩ = some (.slice none 0 0) := (bkc BK616.out 3).trans rfl; have hfz56_0 := bkz BK616.out 0; have hfz56_1 := bkz BK616.out 1; have hfz56_2 := bkz BK616.out 2; have hfz56_3 := bkz BK616.out 3; obtain ⟨Ao57, co57, eo57⟩ := Kd.S_slice HO614.out; subst eo57; have hcz58_0 : w54.cell? ⟨gb604, 0, none⟩ = some (.int .i64 a0_0) := (bkc BK604.out 0).trans rfl; have hcz58_1 : w54.cell? ⟨gb604, 1, none⟩ = some (.int .i64 a0_1) := (bkc BK604.out 1).trans rfl; have hcz58_2 : w54.cell? ⟨gb604, 2, none⟩ = some (.int .i64 a0_2) := (bkc BK604.out 2).trans rfl; have hcz58_3 : w54.cell? ⟨gb604, 3, none⟩ = some (.slice A0_3 l0_3.length c0_3) := (bkc BK604.out 3).trans rfl; have hfz58_0 := bkz BK604.out 0; have hfz58_1 := bkz BK604.out 1; have hfz58_2 := bkz BK604.out 2; have hfz58_3 := bkz BK604.out 3) | (go_at_call 15; (with_reducible refine (r00_EqImage.calls k3 t609 t610 t611 _ _ t612 a0_0 a0_1 a0_2 _ _ l0_3 false _ ?side1 ?side2 ?side3 ?side4 A38.out).mono ?_); (case side1 => refine (Kd.S_reads' (e := 39) (base := w.heap.size) (ok := fun k_ => True) (n := t612.length) (c := co57) ?_).2.2; exact (by (with_reducible repeat (first | apply Kd.S_alloc | apply Kd.S_drewN | apply Kd.S_drew)); exact (Kd.S_mono (Kd.S_far (p := ⟨gb616, 3, none⟩) (Kd.S_far (p := ⟨gb616, 2, none⟩) (Kd.S_far (p := ⟨gb616, 1, none⟩) (Kd.S_far (p := ⟨gb616, 0, none⟩) (Kd.S_types HO614.out BK616.out (by decide)) (fun _ hk => hk.2) (.int .i64 t609)) (fun _ hk => hk.2) (.int .i64 t610)) (fun _ hk => hk.2) (.int .i64 t611)) (fun _ hk => hk.2) (.slice Ao57 t612.length co57)) (fun _ h_ => h_.1)))); (case side2 => exact (Kd.S_reads' HO614.out).2.1); (case side3 => exact Kd.C_below HR0_3.out (by repeat (first | (with_reducible first | exact HB.out | apply bwa | apply pwN | apply bwd | refine bws ?_ GE604.out | refine bws ?_ GE616.out) | exact HB.out))); (case side4 => exact HC0_3.out); rintro e w59 ⟨rfl, hb⟩; have n0_ := As0.mk (Kd.R_below (by (with_reducible repeat (first | apply Kd.R_alloc | apply Kd.R_drewN | apply Kd.R_drew)); exact (Kd.R_mono (Kd.R_far (p := ⟨gb616, 3, none⟩) (Kd.R_far (p := ⟨gb616, 2, none⟩) (Kd.R_far (p := ⟨gb616, 1, none⟩) (Kd.R_far (p := ⟨gb616, 0, none⟩) (Kd.R_mono HO_11.out (fun k_ hk => (⟨hk, hk.2⟩ : _ ∧ k_ ≠ gb616))) (fun _ hk => hk.2) (.int .i64 t609)) (fun _ hk => hk.2) (.int .i64 t610)) (fun _ hk => hk.2) (.int .i64 t611)) (fun _ hk => hk.2) (.slice Ao57 t612.length co57)) (fun _ h_ => h_.1))) hb); have n1_ := As0.mk (Kd.S_below (by (with_reducible repeat (first | apply Kd.S_alloc | apply Kd.S_drewN | apply Kd.S_drew)); exact (Kd.S_mono (Kd.S_far (p := ⟨gb616, 3, none⟩) (Kd.S_far (p := ⟨gb616, 2, none⟩) (Kd.S_far (p := ⟨gb616, 1, none⟩) (Kd.S_far (p := ⟨gb616, 0, none⟩) (Kd.S_types HO614.out BK616.out (by decide)) (fun _ hk => hk.2) (.int .i64 t609)) (fun _ hk => hk.2) (.int .i64 t610)) (fun _ hk => hk.2) (.int .i64 t611)) (fun _ hk => hk.2) (.slice Ao57 t612.length co57)) (fun _ h_ => h_.1))) hb); have n2_ := As0.mk (bkb (g := gb604) (o := .cells #[.int .i64 a0_0, .int .i64 a0_1, .int .i64 a0_2, .slice A0_3 l0_3.length c0_3] 24 (0, 0)) (by (with_reducible repeat (first | refine bkN ?_ _ | refine bkd ?_ | refine bka ?_ _)); refine bkf ?_ NB604_616.out _; (with_reducible repeat (first | refine bkN ?_ _ | refine bkd ?_ | refine bka ?_ _)); refine bkf ?_ NB604_616.out _; (with_reducible repeat (first | refine bkN ?_ _ | refine bkd ?_ | refine bka ?_ _)); refine bkf ?_ NB604_616.out _; (with_reducible repeat (first | refine bkN ?_ _ | refine bkd ?_ | refine bka ?_ _)); refine bkf ?_ NB604_616.out _; (with_reducible repeat (first | refine bkN ?_ _ | refine bkd ?_ | refine bka ?_ _)); exact BK604.out) hb); have n3_ := As0.mk (bkb (g := gb616) (o := .cells #[.int .i64 t609, .int .i64 t610, .int .i64 t611, .slice Ao57 t612.length co57] 24 (0, 0)) (by (with_reducible repeat (first | refine bkN ?_ _ | refine bkd ?_ | refine bka ?_ _)); refine blk_put (cs := #[.int .i64 t609, .int .i64 t610, .int .i64 t611, .slice none 0 0]) ?_ 3 _ rfl; (with_reducible repeat (first | refine bkN ?_ _ | refine bkd ?_ | refine bka ?_ _)); refine blk_put (cs := #[.int .i64 t609, .int .i64 t610, .int .i64 0, .slice none 0 0]) ?_ 2 _ rfl; (with_reducible repeat (first | refine bkN ?_ _ | refine bkd ?_ | refine bka ?_ _)); refine blk_put (cs := #[.int .i64 t609, .int .i64 0, .int .i64 0, .slice none 0 0]) ?_ 1 _ rfl; (with_reducible repeat (first | refine bkN ?_ _ | refine bkd ?_ | refine bka ?_ _)); refine blk_put (cs := #[.int .i64 0, .int .i64 0, .int .i64 0, .slice none 0 0]) ?_ 0 _ rfl; (with_reducible repeat (first | refine bkN ?_ _ | refine bkd ?_ | refine bka ?_ _)); exact BK616.out) hb); have n4_ := As0.mk (bwp (by repeat (first | (with_reducible first | exact HB.out | apply bwa | apply pwN | apply bwd | refine bws ?_ GE604.out | refine bws ?_ GE616.out) | exact HB.out)) hb); clear HO_11; clear HO614; clear BK604; clear BK616; clear HB; have HO_11 := n0_; have HO614 := n1_; have BK604 := n2_; have BK616 := n3_; have HB := n4_; clear n0_ n1_ n2_ n3_ n4_; (try clear hb); (try clear hb2); (try clear hk); (try clear hi)))
                repeat (go_quiet (first | (go_at_call 28; (with_reducible refine (item_Grid.calls k3 _ _ x11_3 (wrap64 (Int.tdiv (wrap64 ((wrap64 (a0_1 + (wrap64 ((Int.tmod (wrap64 (a2)) a0_1) + 1)))) - 1)) (wrap64 ((Int.tmod (wrap64 (a2)) a0_1) + 1)))) (wrap64 (Int.tdiv (wrap64 ((wrap64 (a0_0 + (wrap64 ((Int.tmod (wrap64 (a1)) a0_0) + 1)))) - 1)) (wrap64 ((Int.tmod (wrap64 (a1)) a0_0) + 1)))) a0_0 a0_1 t609 t610 t611 t612 t615 _ ?side1 ?side2 A36.out).mono ?_); (case side1 => repeat (first | exact (Kd.R_reads' HO_11.out).2.2 | (with_reducible refine Kd.C_alloc ?_ _) | (with_reducible refine Kd.C_drewN ?_ _) | (with_reducible refine Kd.C_drew ?_))); (case side2 => exact (Kd.R_reads' HO_11.out).2.1); rintro e w53 ⟨v613, rfl, ho0, hb⟩; have n0_ := As0.mk (Kd.R_elder' (by (with_reducible repeat (first | apply Kd.R_alloc | apply Kd.R_drewN | apply Kd.R_drew)); exact HO_11.out) (Kd.S_base ho0) hb); have n1_ := As0.mk (Kd.S_lower ho0 (bwz (by repeat (first | (with_reducible first | exact HB.out | apply bwa | apply pwN | apply bwd | refine bws ?_ GE604.out) | exact HB.out)))); have n2_ := As0.mk (bkb (g := gb604) (o := .cells #[.int .i64 a0_0, .int .i64 a0_1, .int .i64 a0_2, .slice A0_3 l0_3.length c0_3] 24 (0, 0)) (by (with_reducible repeat (first | refine bkN ?_ _ | refine bkd ?_ | refine bka ?_ _)); exact BK604.out) hb); have n3_ := As0.mk (bwp (by repeat (first | (with_reducible first | exact HB.out | apply bwa | apply pwN | apply bwd | refine bws ?_ GE604.out) | exact HB.out)) hb); clear HO_11; clear BK604; clear HB; have HO_11 := n0_; have HO614 := n1_; have BK604 := n2_; have HB := n3_; clear n0_ n1_ n2_ n3_; (try clear hb); (try clear hb2); (try clear hk); (try clear hi); (try clear ho0)) | ((with_reducible refine gdt (N := 14) rfl ?_); refine bxe ?hg (N := 14) ?hd (cs := #[.int .i64 0, .int .i64 0, .int .i64 0, .slice none 0 0]) (t := 24) ?hr ?_; (case hd => rfl); (case hg => rfl); (case hr => first | (go_simp; done) | (go_simp; rfl)); intro gb616 hg w54 hbox hb; have n0_ := As0.mk (Kd.R_below (Kd.R_elderB (by (with_reducible repeat (first | apply Kd.R_alloc | apply Kd.R_drewN | apply Kd.R_drew)); exact HO_11.out) gb616 (Nat.le_of_eq hg.symm)) hb); have n1_ := As0.mk (Kd.S_below (by (with_reducible repeat (first | apply Kd.S_alloc | apply Kd.S_drewN | apply Kd.S_drew)); exact HO614.out) hb); have n2_ := As0.mk (bkb (g := gb604) (o := .cells #[.int .i64 a0_0, .int .i64 a0_1, .int .i64 a0_2, .slice A0_3 l0_3.length c0_3] 24 (0, 0)) (by (with_reducible repeat (first | refine bkN ?_ _ | refine bkd ?_ | refine bka ?_ _)); exact BK604.out) hb); have n3_ := As0.mk (bwp (by repeat (first | (with_reducible first | exact HB.out | apply bwa | apply pwN | apply bwd | refine bws ?_ GE604.out) | exact HB.out)) hb); have n4_ := As0.mk (hbox); have n5_ := As0.mk ((by rw [hg]; exact (bwz (by repeat (first | (with_reducible first | exact HB.out | apply bwa | apply pwN | apply bwd | refine bws ?_ GE604.out) | exact HB.out))) : w.heap.size ≤ gb616)); have n6_ := As0.mk ((by rw [hg]; exact (bwz (by repeat (first | (with_reducible first | exact HB.out | apply bwa | apply pwN | apply bwd | refine bws ?_ GE604.out) | exact HB.out))) : w.heap.size ≤ gb616)); have n7_ := As0.mk ((by rw [hg]; exact Nat.ne_of_lt (blk_lt (g := gb604) (o := .cells #[.int .i64 a0_0, .int .i64 a0_1, .int .i64 a0_2, .slice A0_3 l0_3.length c0_3] 24 (0, 0)) (by (with_reducible repeat (first | refine bkN ?_ _ | refine bkd ?_ | refine bka ?_ _)); exact BK604.out)) : gb604 ≠ gb616)); have n8_ := As0.mk ((by rw [hg]; exact Nat.ne_of_gt (blk_lt (g := gb604) (o := .cells #[.int .i64 a0_0, .int .i64 a0_1, .int .i64 a0_2, .slice A0_3 l0_3.length c0_3] 24 (0, 0)) (by (with_reducible repeat (first | refine bkN ?_ _ | refine bkd ?_ | refine bka ?_ _)); exact BK604.out)) : gb616 ≠ gb604)); clear HO_11; clear HO614; clear BK604; clear HB; have HO_11 := n0_; have HO614 := n1_; have BK604 := n2_; have HB := n3_; have BK616 := n4_; have GW616 := n5_; have GE616 := n6_; have NB604_616 := n7_; have NB616_604 := n8_; clear n0_ n1_ n2_ n3_ n4_ n5_ n6_ n7_ n8_; clear hb hbox hg; have hnb55 := NB616_604.out; have hnc55 := NB604_616.out; have hcz56_0 : w54.cell? ⟨gb616, 0, none⟩ = some (.int .i64 0) := (bkc BK616.out 0).trans rfl; have hcz56_1 : w54.cell? ⟨gb616, 1, none⟩ = some (.int .i64 0) := (bkc BK616.out 1).trans rfl; have hcz56_2 : w54.cell? ⟨gb616, 2, none⟩ = some (.int .i64 0) := (bkc BK616.out 2).trans rfl; have hcz56_3 : w54.cell? ⟨gb616, 3, none⟩ = some (.slice none 0 0) := (bkc BK616.out 3).trans rfl; have hfz56_0 := bkz BK616.out 0; have hfz56_1 := bkz BK616.out 1; have hfz56_2 := bkz BK616.out 2; have hfz56_3 := bkz BK616.out 3; obtain ⟨Ao57, co57, eo57⟩ := Kd.S_slice HO614.out; subst eo57; have hcz58_0 : w54.cell? ⟨gb604, 0, none⟩ = some (.int .i64 a0_0) := (bkc BK604.out 0).trans rfl; have hcz58_1 : w54.cell? ⟨gb604, 1, none⟩ = some (.int .i64 a0_1) := (bkc BK604.out 1).trans rfl; have hcz58_2 : w54.cell? ⟨gb604, 2, none⟩ = some (.int .i64 a0_2) := (bkc BK604.out 2).trans rfl; have hcz58_3 : w54.cell? ⟨gb604, 3, none⟩ = some (.slice A0_3 l0_3.length c0_3) := (bkc BK604.out 3).trans rfl; have hfz58_0 := bkz BK604.out 0; have hfz58_1 := bkz BK604.out 1; have hfz58_2 := bkz BK604.out 2; have hfz58_3 := bkz BK604.out 3) | (go_at_call 15; (with_reducible refine (r00_EqImage.calls k3 t609 t610 t611 _ _ t612 a0_0 a0_1 a0_2 _ _ l0_3 false _ ?side1 ?side2 ?side3 ?side4 A38.out).mono ?_); (case side1 => refine (Kd.S_reads' (e := 39) (base := w.heap.size) (ok := fun k_ => True) (n := t612.length) (c := co57) ?_).2.2; exact (by (with_reducible repeat (first | apply Kd.S_alloc | apply Kd.S_drewN | apply Kd.S_drew)); exact (Kd.S_mono (Kd.S_far (p := ⟨gb616, 3, none⟩) (Kd.S_far (p := ⟨gb616, 2, none⟩) (Kd.S_far (p := ⟨gb616, 1, none⟩) (Kd.S_far (p := ⟨gb616, 0, none⟩) (Kd.S_types HO614.out BK616.out (by decide)) (fun _ hk => hk.2) (.int .i64 t609)) (fun _ hk => hk.2) (.int .i64 t610)) (fun _ hk => hk.2) (.int .i64 t611)) (fun _ hk => hk.2) (.slice Ao57 t612.length co57)) (fun _ h_ => h_.1)))); (case side2 => exact (Kd.S_reads' HO614.out).2.1); (case side3 => exact Kd.C_below HR0_3.out (by repeat (first | (with_reducible first | exact HB.out | apply bwa | apply pwN | apply bwd | refine bws ?_ GE604.out | refine bws ?_ GE616.out) | exact HB.out))); (case side4 => exact HC0_3.out); rintro e w59 ⟨rfl, hb⟩; have n0_ := As0.mk (Kd.R_below (by (with_reducible repeat (first | apply Kd.R_alloc | apply Kd.R_drewN | apply Kd.R_drew)); exact (Kd.R_mono (Kd.R_far (p := ⟨gb616, 3, none⟩) (Kd.R_far (p := ⟨gb616, 2, none⟩) (Kd.R_far (p := ⟨gb616, 1, none⟩) (Kd.R_far (p := ⟨gb616, 0, none⟩) (Kd.R_mono HO_11.out (fun k_ hk => (⟨hk, hk.2⟩ : _ ∧ k_ ≠ gb616))) (fun _ hk => hk.2) (.int .i64 t609)) (fun _ hk => hk.2) (.int .i64 t610)) (fun _ hk => hk.2) (.int .i64 t611)) (fun _ hk => hk.2) (.slice Ao57 t612.length co57)) (fun _ h_ => h_.1))) hb); have n1_ := As0.mk (Kd.S_below (by (with_reducible repeat (first | apply Kd.S_alloc | apply Kd.S_drewN | apply Kd.S_drew)); exact (Kd.S_mono (Kd.S_far (p := ⟨gb616, 3, none⟩) (Kd.S_far (p := ⟨gb616, 2, none⟩) (Kd.S_far (p := ⟨gb616, 1, none⟩) (Kd.S_far (p := ⟨gb616, 0, none⟩) (Kd.S_types HO614.out BK616.out (by decide)) (fun _ hk => hk.2) (.int .i64 t609)) (fun _ hk => hk.2) (.int .i64 t610)) (fun _ hk => hk.2) (.int .i64 t611)) (fun _ hk => hk.2) (.slice Ao57 t612.length co57)) (fun _ h_ => h_.1))) hb); have n2_ := As0.mk (bkb (g := gb604) (o := .cells #[.int .i64 a0_0, .int .i64 a0_1, .int .i64 a0_2, .slice A0_3 l0_3.length c0_3] 24 (0, 0)) (by (with_reducible repeat (first | refine bkN ?_ _ | refine bkd ?_ | refine bka ?_ _)); refine bkf ?_ NB604_616.out _; (with_reducible repeat (first | refine bkN ?_ _ | refine bkd ?_ | refine bka ?_ _)); refine bkf ?_ NB604_616.out _; (with_reducible repeat (first | refine bkN ?_ _ | refine bkd ?_ | refine bka ?_ _)); refine bkf ?_ NB604_616.out _; (with_reducible repeat (first | refine bkN ?_ _ | refine bkd ?_ | refine bka ?_ _)); refine bkf ?_ NB604_616.out _; (with_reducible repeat (first | refine bkN ?_ _ | refine bkd ?_ | refine bka ?_ _)); exact BK604.out) hb); have n3_ := As0.mk (bkb (g := gb616) (o := .cells #[.int .i64 t609, .int .i64 t610, .int .i64 t611, .slice Ao57 t612.length co57] 24 (0, 0)) (by (with_reducible repeat (first | refine bkN ?_ _ | refine bkd ?_ | refine bka ?_ _)); refine blk_put (cs := #[.int .i64 t609, .int .i64 t610, .int .i64 t611, .slice none 0 0]) ?_ 3 _ rfl; (with_reducible repeat (first | refine bkN ?_ _ | refine bkd ?_ | refine bka ?_ _)); refine blk_put (cs := #[.int .i64 t609, .int .i64 t610, .int .i64 0, .slice none 0 0]) ?_ 2 _ rfl; (with_reducible repeat (first | refine bkN ?_ _ | refine bkd ?_ | refine bka ?_ _)); refine blk_put (cs := #[.int .i64 t609, .int .i64 0, .int .i64 0, .slice none 0 0]) ?_ 1 _ rfl; (with_reducible repeat (first | refine bkN ?_ _ | refine bkd ?_ | refine bka ?_ _)); refine blk_put (cs := #[.int .i64 0, .int .i64 0, .int .i64 0, .slice none 0 0]) ?_ 0 _ rfl; (with_reducible repeat (first | refine bkN ?_ _ | refine bkd ?_ | refine bka ?_ _)); exact BK616.out) hb); have n4_ := As0.mk (bwp (by repeat (first | (with_reducible first | exact HB.out | apply bwa | apply pwN | apply bwd | refine bws ?_ GE604.out | refine bws ?_ GE616.out) | exact HB.out)) hb); clear HO_11; clear HO614; clear BK604; clear BK616; clear HB; have HO_11 := n0_; have HO614 := n1_; have BK604 := n2_; have BK616 := n3_; have HB := n4_; clear n0_ n1_ n2_ n3_ n4_; (try clear hb); (try clear hb2); (try clear hk); (try clear hi))); try go_wp2_with (first | (go_at_call 28; (with_reducible refine (item_Grid.calls k3 _ _ x11_3 (wrap64 (Int.tdiv (wrap64 ((wrap64 (a0_1 + (wrap64 ((Int.tmod (wrap64 (a2)) a0_1) + 1)))) - 1)) (wrap64 ((Int.tmod (wrap64 (a2)) a0_1) + 1)))) (wrap64 (Int.tdiv (wrap64 ((wrap64 (a0_0 + (wrap64 ((Int.tmod (wrap64 (a1)) a0_0) + 1)))) - 1)) (wrap64 ((Int.tmod (wrap64 (a1)) a0_0) + 1)))) a0_0 a0_1 t609 t610 t611 t612 t615 _ ?side1 ?side2 A36.out).mono ?_); (case side1 => repeat (first | exact (Kd.R_reads' HO_11.out).2.2 | (with_reducible refine Kd.C_alloc ?_ _) | (with_reducible refine Kd.C_drewN ?_ _) | (with_reducible refine Kd.C_drew ?_))); (case side2 => exact (Kd.R_reads' HO_11.out).2.1); rintro e w53 ⟨v613, rfl, ho0, hb⟩; have n0_ := As0.mk (Kd.R_elder' (by (with_reducible repeat (first | apply Kd.R_alloc | apply Kd.R_drewN | apply Kd.R_drew)); exact HO_11.out) (Kd.S_base ho0) hb); have n1_ := As0.mk (Kd.S_lower ho0 (bwz (by repeat (first | (with_reducible first | exact HB.out | apply bwa | apply pwN | apply bwd | refine bws ?_ GE604.out) | exact HB.out)))); have n2_ := As0.mk (bkb (g := gb604) (o := .cells #[.int .i64 a0_0, .int .i64 a0_1, .int .i64 a0_2, .slice A0_3 l0_3.length c0_3] 24 (0, 0)) (by (with_reducible repeat (first | refine bkN ?_ _ | refine bkd ?_ | refine bka ?_ _)); exact BK604.out) hb); have n3_ := As0.mk (bwp (by repeat (first | (with_reducible first | exact HB.out | apply bwa | apply pwN | apply bwd | refine bws ?_ GE604.out) | exact HB.out)) hb); clear HO_11; clear BK604; clear HB; have HO_11 := n0_; have HO614 := n1_; have BK604 := n2_; have HB := n3_; clear n0_ n1_ n2_ n3_; (try clear hb); (try clear hb2); (try clear hk); (try clear hi); (try clear ho0)) | ((with_reducible refine gdt (N := 14) rfl ?_); refine bxe ?hg (N := 14) ?hd (cs := #[.int .i64 0, .int .i64 0, .int .i64 0, .slice none 0 0]) (t := 24) ?hr ?_; (case hd => rfl); (case hg => rfl); (case hr => first | (go_simp; done) | (go_simp; rfl)); intro gb616 hg w54 hbox hb; have n0_ := As0.mk (Kd.R_below (Kd.R_elderB (by (with_reducible repeat (first | apply Kd.R_alloc | apply Kd.R_drewN | apply Kd.R_drew)); exact HO_11.out) gb616 (Nat.le_of_eq hg.symm)) hb); have n1_ := As0.mk (Kd.S_below (by (with_reducible repeat (first | apply Kd.S_alloc | apply Kd.S_drewN | apply Kd.S_drew)); exact HO614.out) hb); have n2_ := As0.mk (bkb (g := gb604) (o := .cells #[.int .i64 a0_0, .int .i64 a0_1, .int .i64 a0_2, .slice A0_3 l0_3.length c0_3] 24 (0, 0)) (by (with_reducible repeat (first | refine bkN ?_ _ | refine bkd ?_ | refine bka ?_ _)); exact BK604.out) hb); have n3_ := As0.mk (bwp (by repeat (first | (with_reducible first | exact HB.out | apply bwa | apply pwN | apply bwd | refine bws ?_ GE604.out) | exact HB.out)) hb); have n4_ := As0.mk (hbox); have n5_ := As0.mk ((by rw [hg]; exact (bwz (by repeat (first | (with_reducible first | exact HB.out | apply bwa | apply pwN | apply bwd | refine bws ?_ GE604.out) | exact HB.out))) : w.heap.size ≤ gb616)); have n6_ := As0.mk ((by rw [hg]; exact (bwz (by repeat (first | (with_reducible first | exact HB.out | apply bwa | apply pwN | apply bwd | refine bws ?_ GE604.out) | exact HB.out))) : w.heap.size ≤ gb616)); have n7_ := As0.mk ((by rw [hg]; exact Nat.ne_of_lt (blk_lt (g := gb604) (o := .cells #[.int .i64 a0_0, .int .i64 a0_1, .int .i64 a0_2, .slice A0_3 l0_3.length c0_3] 24 (0, 0)) (by (with_reducible repeat (first | refine bkN ?_ _ | refine bkd ?_ | refine bka ?_ _)); exact BK604.out)) : gb604 ≠ gb616)); have n8_ := As0.mk ((by rw [hg]; exact Nat.ne_of_gt (blk_lt (g := gb604) (o := .cells #[.int .i64 a0_0, .int .i64 a0_1, .int .i64 a0_2, .slice A0_3 l0_3.length c0_3] 24 (0, 0)) (by (with_reducible repeat (first | refine bkN ?_ _ | refine bkd ?_ | refine bka ?_ _)); exact BK604.out)) : gb616 ≠ gb604)); clear HO_11; clear HO614; clear BK604; clear HB; have HO_11 := n0_; have HO614 := n1_; have BK604 := n2_; have HB := n3_; have BK616 := n4_; have GW616 := n5_; have GE616 := n6_; have NB604_616 := n7_; have NB616_604 := n8_; clear n0_ n1_ n2_ n3_ n4_ n5_ n6_ n7_ n8_; clear hb hbox hg; have hnb55 := NB616_604.out; have hnc55 := NB604_616.out; have hcz56_0 : w54.cell? ⟨gb616, 0, none⟩ = some (.int .i64 0) := (bkc BK616.out 0).trans rfl; have hcz56_1 : w54.cell? ⟨gb616, 1, none⟩ = some (.int .i64 0) := (bkc BK616.out 1).trans rfl; have hcz56_2 : w54.cell? ⟨gb616, 2, none⟩ = some (.int .i64 0) := (bkc BK616.out 2).trans rfl; have hcz56_3 : w54.cell? ⟨gb616, 3, none⟩ = some (.slice none 0 0) := (bkc BK616.out 3).trans rfl; have hfz56_0 := bkz BK616.out 0; have hfz56_1 := bkz BK616.out 1; have hfz56_2 := bkz BK616.out 2; have hfz56_3 := bkz BK616.out 3; obtain ⟨Ao57, co57, eo57⟩ := Kd.S_slice HO614.out; subst eo57; have hcz58_0 : w54.cell? ⟨gb604, 0, none⟩ = some (.int .i64 a0_0) := (bkc BK604.out 0).trans rfl; have hcz58_1 : w54.cell? ⟨gb604, 1, none⟩ = some (.int .i64 a0_1) := (bkc BK604.out 1).trans rfl; have hcz58_2 : w54.cell? ⟨gb604, 2, none⟩ = some (.int .i64 a0_2) := (bkc BK604.out 2).trans rfl; have hcz58_3 : w54.cell? ⟨gb604, 3, none⟩ = some (.slice A0_3 l0_3.length c0_3) := (bkc BK604.out 3).trans rfl; have hfz58_0 := bkz BK604.out 0; have hfz58_1 := bkz BK604.out 1; have hfz58_2 := bkz BK604.out 2; have hfz58_3 := bkz BK604.out 3) | (go_at_call 15; (with_reducible refine (r00_EqImage.calls k3 t609 t610 t611 _ _ t612 a0_0 a0_1 a0_2 _ _ l0_3 false _ ?side1 ?side2 ?side3 ?side4 A38.out).mono ?_); (case side1 => refine (Kd.S_reads' (e := 39) (base := w.heap.size) (ok := fun k_ => True) (n := t612.length) (c := co57) ?_).2.2; exact (by (with_reducible repeat (first | apply Kd.S_alloc | apply Kd.S_drewN | apply Kd.S_drew)); exact (Kd.S_mono (Kd.S_far (p := ⟨gb616, 3, none⟩) (Kd.S_far (p := ⟨gb616, 2, none⟩) (Kd.S_far (p := ⟨gb616, 1, none⟩) (Kd.S_far (p := ⟨gb616, 0, none⟩) (Kd.S_types HO614.out BK616.out (by decide)) (fun _ hk => hk.2) (.int .i64 t609)) (fun _ hk => hk.2) (.int .i64 t610)) (fun _ hk => hk.2) (.int .i64 t611)) (fun _ hk => hk.2) (.slice Ao57 t612.length co57)) (fun _ h_ => h_.1)))); (case side2 => exact (Kd.S_reads' HO614.out).2.1); (case side3 => exact Kd.C_below HR0_3.out (by repeat (first | (with_reducible first | exact HB.out | apply bwa | apply pwN | apply bwd | refine bws ?_ GE604.out | refine bws ?_ GE616.out) | exact HB.out))); (case side4 => exact HC0_3.out); rintro e w59 ⟨rfl, hb⟩; have n0_ := As0.mk (Kd.R_below (by (with_reducible repeat (first | apply Kd.R_alloc | apply Kd.R_drewN | apply Kd.R_drew)); exact (Kd.R_mono (Kd.R_far (p := ⟨gb616, 3, none⟩) (Kd.R_far (p := ⟨gb616, 2, none⟩) (Kd.R_far (p := ⟨gb616, 1, none⟩) (Kd.R_far (p := ⟨gb616, 0, none⟩) (Kd.R_mono HO_11.out (fun k_ hk => (⟨hk, hk.2⟩ : _ ∧ k_ ≠ gb616))) (fun _ hk => hk.2) (.int .i64 t609)) (fun _ hk => hk.2) (.int .i64 t610)) (fun _ hk => hk.2) (.int .i64 t611)) (fun _ hk => hk.2) (.slice Ao57 t612.length co57)) (fun _ h_ => h_.1))) hb); have n1_ := As0.mk (Kd.S_below (by (with_reducible repeat (first | apply Kd.S_alloc | apply Kd.S_drewN | apply Kd.S_drew)); exact (Kd.S_mono (Kd.S_far (p := ⟨gb616, 3, none⟩) (Kd.S_far (p := ⟨gb616, 2, none⟩) (Kd.S_far (p := ⟨gb616, 1, none⟩) (Kd.S_far (p := ⟨gb616, 0, none⟩) (Kd.S_types HO614.out BK616.out (by decide)) (fun _ hk => hk.2) (.int .i64 t609)) (fun _ hk => hk.2) (.int .i64 t610)) (fun _ hk => hk.2) (.int .i64 t611)) (fun _ hk => hk.2) (.slice Ao57 t612.length co57)) (fun _ h_ => h_.1))) hb); have n2_ := As0.mk (bkb (g := gb604) (o := .cells #[.int .i64 a0_0, .int .i64 a0_1, .int .i64 a0_2, .slice A0_3 l0_3.length c0_3] 24 (0, 0)) (by (with_reducible repeat (first | refine bkN ?_ _ | refine bkd ?_ | refine bka ?_ _)); refine bkf ?_ NB604_616.out _; (with_reducible repeat (first | refine bkN ?_ _ | refine bkd ?_ | refine bka ?_ _)); refine bkf ?_ NB604_616.out _; (with_reducible repeat (first | refine bkN ?_ _ | refine bkd ?_ | refine bka ?_ _)); refine bkf ?_ NB604_616.out _; (with_reducible repeat (first | refine bkN ?_ _ | refine bkd ?_ | refine bka ?_ _)); refine bkf ?_ NB604_616.out _; (with_reducible repeat (first | refine bkN ?_ _ | refine bkd ?_ | refine bka ?_ _)); exact BK604.out) hb); have n3_ := As0.mk (bkb (g := gb616) (o := .cells #[.int .i64 t609, .int .i64 t610, .int .i64 t611, .slice Ao57 t612.length co57] 24 (0, 0)) (by (with_reducible repeat (first | refine bkN ?_ _ | refine bkd ?_ | refine bka ?_ _)); refine blk_put (cs := #[.int .i64 t609, .int .i64 t610, .int .i64 t611, .slice none 0 0]) ?_ 3 _ rfl; (with_reducible repeat (first | refine bkN ?_ _ | refine bkd ?_ | refine bka ?_ _)); refine blk_put (cs := #[.int .i64 t609, .int .i64 t610, .int .i64 0, .slice none 0 0]) ?_ 2 _ rfl; (with_reducible repeat (first | refine bkN ?_ _ | refine bkd ?_ | refine bka ?_ _)); refine blk_put (cs := #[.int .i64 t609, .int .i64 0, .int .i64 0, .slice none 0 0]) ?_ 1 _ rfl; (with_reducible repeat (first | refine bkN ?_ _ | refine bkd ?_ | refine bka ?_ _)); refine blk_put (cs := #[.int .i64 0, .int .i64 0, .int .i64 0, .slice none 0 0]) ?_ 0 _ rfl; (with_reducible repeat (first | refine bkN ?_ _ | refine bkd ?_ | refine bka ?_ _)); exact BK616.out) hb); have n4_ := As0.mk (bwp (by repeat (first | (with_reducible first | exact HB.out | apply bwa | apply pwN | apply bwd | refine bws ?_ GE604.out | refine bws ?_ GE616.out) | exact HB.out)) hb); clear HO_11; clear HO614; clear BK604; clear BK616; clear HB; have HO_11 := n0_; have HO614 := n1_; have BK604 := n2_; have BK616 := n3_; have HB := n4_; clear n0_ n1_ n2_ n3_ n4_; (try clear hb); (try clear hb2); (try clear hk); (try clear hi))))
                go_ret
                exact ⟨by first | rfl | (simp [errW_none, errW_some] <;> rfl) | (simp [*, errW_none, errW_some] <;> rfl), by repeat (first | (with_reducible first | exact HB.out | apply bwa | apply pwN | apply bwd | refine bws ?_ GE604.out | refine bws ?_ GE616.out) | exact HB.out)⟩
              ·rw [if_neg c37] at H
               have c37b0 : (t615 == 0) = false := beq_eq_false_iff_ne.mpr c37
               have c37b1 : (t615 != 0) = true := bne_iff_ne.mpr c37
               obtain rfl := Option.some.inj H
               have hcz60_0 : wr.cell? ⟨gb604, 0, none⟩ = some (.int .i64 a0_0) := (bkc BK604.out 0).trans rfl
               have hcz60_1 : wr.cell? ⟨gb604, 1, none⟩ = some (.int .i64 a0_1) := (bkc BK604.out 1).trans rfl
               have hcz60_2 : wr.cell? ⟨gb604, 2, none⟩ = some (.int .i64 a0_2) := (bkc BK604.out 2).trans rfl
               have hcz60_3 : wr.cell? ⟨gb604, 3, none⟩ = some (.slice A0_3 l0_3.length c0_3) := (bkc BK604.out 3).trans rfl
               have hfz60_0 := bkz BK604.out 0
               have hfz60_1 := bkz BK604.out 1
               have hfz60_2 := bkz BK604.out 2
               have hfz60_3 := bkz BK604.out 3
               obtain ⟨Ao61, co61, eo61⟩ := Kd.R_slice HO_11.out
               subst eo61
               go_wp2_with (first | (go_at_call 28; (with_reducible refine (item_Grid.calls k3 _ _ x11_3 (wrap64 (Int.tdiv (wrap64 ((wrap64 (a0_1 + (wrap64 ((Int.tmod (wrap64 (a2)) a0_1) + 1)))) - 1)) (wrap64 ((Int.tmod (wrap64 (a2)) a0_1) + 1)))) (wrap64 (Int.tdiv (wrap64 ((wrap64 (a0_0 + (wrap64 ((Int.tmod (wrap64 (a1)) a0_0) + 1)))) - 1)) (wrap64 ((Int.tmod (wrap64 (a1)) a0_0) + 1)))) a0_0 a0_1 t609 t610 t611 t612 t615 _ ?side1 ?side2 A36.out).mono ?_); (case side1 => repeat (first | exact (Kd.R_reads' HO_11.out).2.2 | (with_reducible refine Kd.C_alloc ?_ _) | (with_reducible refine Kd.C_drewN ?_ _) | (with_reducible refine Kd.C_drew ?_))); (case side2 => exact (Kd.R_reads' HO_11.out).2.1); rintro e w62 ⟨v613, rfl, ho0, hb⟩; have n0_ := As0.mk (Kd.R_elder' (by (with_reducible repeat (first | apply Kd.R_alloc | apply Kd.R_drewN | apply Kd.R_drew)); exact HO_11.out) (Kd.S_base ho0) hb); have n1_ := As0.mk (Kd.S_lower ho0 (bwz (by repeat (first | (with_reducible first | exact HB.out | apply bwa | apply pwN | apply bwd | refine bws ?_ GE604.out) | exact HB.out)))); have n2_ := As0.mk (bkb (g := gb604) (o := .cells #[.int .i64 a0_0, .int .i64 a0_1, .int .i64 a0_2, .slice A0_3 l0_3.length c0_3] 24 (0, 0)) (by (with_reducible repeat (first | refine bkN ?_ _ | refine bkd ?_ | refine bka ?_ _)); exact BK604.out) hb); have n3_ := As0.mk (bwp (by repeat (first | (with_reducible first | exact HB.out | apply bwa | apply pwN | apply bwd | refine bws ?_ GE604.out) | exact HB.out)) hb); clear HO_11; clear BK604; clear HB; have HO_11 := n0_; have HO614 := n1_; have BK604 := n2_; have HB := n3_; clear n0_ n1_ n2_ n3_; (try clear hb); (try clear hb2); (try clear hk); (try clear hi); (try clear ho0)) | ((with_reducible refine gdt (N := 14) rfl ?_); refine bxe ?hg (N := 14) ?hd (cs := #[.int .i64 0, .int .i64 0, .int .i64 0, .slice none 0 0]) (t := 24) ?hr ?_; (case hd => rfl); (case hg => rfl); (case hr => first | (go_simp; done) | (go_simp; rfl)); intro gb616 hg w63 hbox hb; have n0_ := As0.mk (Kd.R_below (Kd.R_elderB (by (with_reducible repeat (first | apply Kd.R_alloc | apply Kd.R_drewN | apply Kd.R_drew)); exact HO_11.out) gb616 (Nat.le_of_eq hg.symm)) hb); have n1_ := As0.mk (Kd.S_below (by (with_reducible repeat (first | apply Kd.S_alloc | apply Kd.S_drewN | apply Kd.S_drew)); exact HO614.out) hb); have n2_ := As0.mk (bkb (g := gb604) (o := .cells #[.int .i64 a0_0, .int .i64 a0_1, .int .i64 a0_2, .slice A0_3 l0_3.length c0_3] 24 (0, 0)) (by (with_reducible repeat (first | refine bkN ?_ _ | refine bkd ?_ | refine bka ?_ _)); exact BK604.out) hb); have n3_ := As0.mk (bwp (by repeat (first | (with_reducible first | exact HB.out | apply bwa | apply pwN | apply bwd | refine bws ?_ GE604.out) | exact HB.out)) hb); have n4_ := As0.mk (hbox); have n5_ := As0.mk ((by rw [hg]; exact (bwz (by repeat (first | (with_reducible first | exact HB.out | apply bwa | apply pwN | apply bwd | refine bws ?_ GE604.out) | exact HB.out))) : w.heap.size ≤ gb616)); have n6_ := As0.mk ((by rw [hg]; exact (bwz (by repeat (first | (with_reducible first | exact HB.out | apply bwa | apply pwN | apply bwd | refine bws ?_ GE604.out) | exact HB.out))) : w.heap.size ≤ gb616)); have n7_ := As0.mk ((by rw [hg]; exact Nat.ne_of_lt (blk_lt (g := gb604) (o := .cells #[.int .i64 a0_0, .int .i64 a0_1, .int .i64 a0_2, .slice A0_3 l0_3.length c0_3] 24 (0, 0)) (by (with_reducible repeat (first | refine bkN ?_ _ | refine bkd ?_ | refine bka ?_ _)); exact BK604.out)) : gb604 ≠ gb616)); have n8_ := As0.mk ((by rw [hg]; exact Nat.ne_of_gt (blk_lt (g := gb604) (o := .cells #[.int .i64 a0_0, .int .i64 a0_1, .int .i64 a0_2, .slice A0_3 l0_3.length c0_3] 24 (0, 0)) (by (with_reducible repeat (first | refine bkN ?_ _ | refine bkd ?_ | refine bka ?_ _)); exact BK604.out)) : gb616 ≠ gb604)); clear HO_11; clear HO614; clear BK604; clear HB; have HO_11 := n0_; have HO614 := n1_; have BK604 := n2_; have HB := n3_; have BK616 := n4_; have GW616 := n5_; have GE616 := n6_; have NB604_616 := n7_; have NB616_604 := n8_; clear n0_ n1_ n2_ n3_ n4_ n5_ n6_ n7_ n8_; clear hb hbox hg; have hnb64 := NB616_604.out; have hnc64 := NB604_616.out; have hcz65_0 : w63.cell? ⟨gb616, 0, none⟩ = some (.int .i64 0) := (bkc BK616.out 0).trans rfl; have hcz65_1 : w63.cell? ⟨gb616, 1, none⟩ = some (.int .i64 0) := (bkc BK616.out 1).trans rfl; have hcz65_2 : w63.cell? ⟨gb616, 2, none⟩ = some (.int .i64 0) := (bkc BK616.out 2).trans rfl; have hcz65_3 : w63.cell? ⟨gb616, 3, none⟩ = some (.slice none 0 0) := (bkc BK616.out 3).trans rfl; have hfz65_0 := bkz BK616.out 0; have hfz65_1 := bkz BK616.out 1; have hfz65_2 := bkz BK616.out 2; have hfz65_3 := bkz BK616.out 3; obtain ⟨Ao66, co66, eo66⟩ := Kd.S_slice HO614.out; subst eo66))
               repeat (go_quiet (first | (go_at_call 28; (with_reducible refine (item_Grid.calls k3 _ _ x11_3 (wrap64 (Int.tdiv (wrap64 ((wrap64 (a0_1 + (wrap64 ((Int.tmod (wrap64 (a2)) a0_1) + 1)))) - 1)) (wrap64 ((Int.tmod (wrap64 (a2)) a0_1) + 1)))) (wrap64 (Int.tdiv (wrap64 ((wrap64 (a0_0 + (wrap64 ((Int.tmod (wrap64 (a1)) a0_0) + 1)))) - 1)) (wrap64 ((Int.tmod (wrap64 (a1)) a0_0) + 1)))) a0_0 a0_1 t609 t610 t611 t612 t615 _ ?side1 ?side2 A36.out).mono ?_); (case side1 => repeat (first | exact (Kd.R_reads' HO_11.out).2.2 | (with_reducible refine Kd.C_alloc ?_ _) | (with_reducible refine Kd.C_drewN ?_ _) | (with_reducible refine Kd.C_drew ?_))); (case side2 => exact (Kd.R_reads' HO_11.out).2.1); rintro e w62 ⟨v613, rfl, ho0, hb⟩; have n0_ := As0.mk (Kd.R_elder' (by (with_reducible repeat (first | apply Kd.R_alloc | apply Kd.R_drewN | apply Kd.R_drew)); exact HO_11.out) (Kd.S_base ho0) hb); have n1_ := As0.mk (Kd.S_lower ho0 (bwz (by repeat (first | (with_reducible first | exact HB.out | apply bwa | apply pwN | apply bwd | refine bws ?_ GE604.out) | exact HB.out)))); have n2_ := As0.mk (bkb (g := gb604) (o := .cells #[.int .i64 a0_0, .int .i64 a0_1, .int .i64 a0_2, .slice A0_3 l0_3.length c0_3] 24 (0, 0)) (by (with_reducible repeat (first | refine bkN ?_ _ | refine bkd ?_ | refine bka ?_ _)); exact BK604.out) hb); have n3_ := As0.mk (bwp (by repeat (first | (with_reducible first | exact HB.out | apply bwa | apply pwN | apply bwd | refine bws ?_ GE604.out) | exact HB.out)) hb); clear HO_11; clear BK604; clear HB; have HO_11 := n0_; have HO614 := n1_; have BK604 := n2_; have HB := n3_; clear n0_ n1_ n2_ n3_; (try clear hb); (try clear hb2); (try clear hk); (try clear hi); (try clear ho0)) | ((with_reducible refine gdt (N := 14) rfl ?_); refine bxe ?hg (N := 14) ?hd (cs := #[.int .i64 0, .int .i64 0, .int .i64 0, .slice none 0 0]) (t := 24) ?hr ?_; (case hd => rfl); (case hg => rfl); (case hr => first | (go_simp; done) | (go_simp; rfl)); intro gb616 hg w63 hbox hb; have n0_ := As0.mk (Kd.R_below (Kd.R_elderB (by (with_reducible repeat (first | apply Kd.R_alloc | apply Kd.R_drewN | apply Kd.R_drew)); exact HO_11.out) gb616 (Nat.le_of_eq hg.symm)) hb); have n1_ := As0.mk (Kd.S_below (by (with_reducible repeat (first | apply Kd.S_alloc | apply Kd.S_drewN | apply Kd.S_drew)); exact HO614.out) hb); have n2_ := As0.mk (bkb (g := gb604) (o := .cells #[.int .i64 a0_0, .int .i64 a0_1, .int .i64 a0_2, .slice A0_3 l0_3.length c0_3] 24 (0, 0)) (by (with_reducible repeat (first | refine bkN ?_ _ | refine bkd ?_ | refine bka ?_ _)); exact BK604.out) hb); have n3_ := As0.mk (bwp (by repeat (first | (with_reducible first | exact HB.out | apply bwa | apply pwN | apply bwd | refine bws ?_ GE604.out) | exact HB.out)) hb); have n4_ := As0.mk (hbox); have n5_ := As0.mk ((by rw [hg]; exact (bwz (by repeat (first | (with_reducible first | exact HB.out | apply bwa | apply pwN | apply bwd | refine bws ?_ GE604.out) | exact HB.out))) : w.heap.size ≤ gb616)); have n6_ := As0.mk ((by rw [hg]; exact (bwz (by repeat (first | (with_reducible first | exact HB.out | apply bwa | apply pwN | apply bwd | refine bws ?_ GE604.out) | exact HB.out))) : w.heap.size ≤ gb616)); have n7_ := As0.mk ((by rw [hg]; exact Nat.ne_of_lt (blk_lt (g := gb604) (o := .cells #[.int .i64 a0_0, .int .i64 a0_1, .int .i64 a0_2, .slice A0_3 l0_3.length c0_3] 24 (0, 0)) (by (with_reducible repeat (first | refine bkN ?_ _ | refine bkd ?_ | refine bka ?_ _)); exact BK604.out)) : gb604 ≠ gb616)); have n8_ := As0.mk ((by rw [hg]; exact Nat.ne_of_gt (blk_lt (g := gb604) (o := .cells #[.int .i64 a0_0, .int .i64 a0_1, .int .i64 a0_2, .slice A0_3 l0_3.length c0_3] 24 (0, 0)) (by (with_reducible repeat (first | refine bkN ?_ _ | refine bkd ?_ | refine bka ?_ _)); exact BK604.out)) : gb616 ≠ gb604)); clear HO_11; clear HO614; clear BK604; clear HB; have HO_11 := n0_; have HO614 := n1_; have BK604 := n2_; have HB := n3_; have BK616 := n4_; have GW616 := n5_; have GE616 := n6_; have NB604_616 := n7_; have NB616_604 := n8_; clear n0_ n1_ n2_ n3_ n4_ n5_ n6_ n7_ n8_; clear hb hbox hg; have hnb64 := NB616_604.out; have hnc64 := NB604_616.out; have hcz65_0 : w63.cell? ⟨gb616, 0, none⟩ = some (.int .i64 0) := (bkc BK616.out 0).trans rfl; have hcz65_1 : w63.cell? ⟨gb616, 1, none⟩ = some (.int .i64 0) := (bkc BK616.out 1).trans rfl; have hcz65_2 : w63.cell? ⟨gb616, 2, none⟩ = some (.int .i64 0) := (bkc BK616.out 2).trans rfl; have hcz65_3 : w63.cell? ⟨gb616, 3, none⟩ = some (.slice none 0 0) := (bkc BK616.out 3).trans rfl; have hfz65_0 := bkz BK616.out 0; have hfz65_1 := bkz BK616.out 1; have hfz65_2 := bkz BK616.out 2; have hfz65_3 := bkz BK616.out 3; obtain ⟨Ao66, co66, eo66⟩ := Kd.S_slice HO614.out; subst eo66)); try go_wp2_with (first | (go_at_call 28; (with_reducible refine (item_Grid.calls k3 _ _ x11_3 (wrap64 (Int.tdiv (wrap64 ((wrap64 (a0_1 + (wrap64 ((Int.tmod (wrap64 (a2)) a0_1) + 1)))) - 1)) (wrap64 ((Int.tmod (wrap64 (a2)) a0_1) + 1)))) (wrap64 (Int.tdiv (wrap64 ((wrap64 (a0_0 + (wrap64 ((Int.tmod (wrap64 (a1)) a0_0) + 1)))) - 1)) (wrap64 ((Int.tmod (wrap64 (a1)) a0_0) + 1)))) a0_0 a0_1 t609 t610 t611 t612 t615 _ ?side1 ?side2 A36.out).mono ?_); (case side1 => repeat (first | exact (Kd.R_reads' HO_11.out).2.2 | (with_reducible refine Kd.C_alloc ?_ _) | (with_reducible refine Kd.C_drewN ?_ _) | (with_reducible refine Kd.C_drew ?_))); (case side2 => exact (Kd.R_reads' HO_11.out).2.1); rintro e w62 ⟨v613, rfl, ho0, hb⟩; have n0_ := As0.mk (Kd.R_elder' (by (with_reducible repeat (first | apply Kd.R_alloc | apply Kd.R_drewN | apply Kd.R_drew)); exact HO_11.out) (Kd.S_base ho0) hb); have n1_ := As0.mk (Kd.S_lower ho0 (bwz (by repeat (first | (with_reducible first | exact HB.out | apply bwa | apply pwN | apply bwd | refine bws ?_ GE604.out) | exact HB.out)))); have n2_ := As0.mk (bkb (g := gb604) (o := .cells #[.int .i64 a0_0, .int .i64 a0_1, .int .i64 a0_2, .slice A0_3 l0_3.length c0_3] 24 (0, 0)) (by (with_reducible repeat (first | refine bkN ?_ _ | refine bkd ?_ | refine bka ?_ _)); exact BK604.out) hb); have n3_ := As0.mk (bwp (by repeat (first | (with_reducible first | exact HB.out | apply bwa | apply pwN | apply bwd | refine bws ?_ GE604.out) | exact HB.out)) hb); clear HO_11; clear BK604; clear HB; have HO_11 := n0_; have HO614 := n1_; have BK604 := n2_; have HB := n3_; clear n0_ n1_ n2_ n3_; (try clear hb); (try clear hb2); (try clear hk); (try clear hi); (try clear ho0)) | ((with_reducible refine gdt (N := 14) rfl ?_); refine bxe ?hg (N := 14) ?hd (cs := #[.int .i64 0, .int .i64 0, .int .i64 0, .slice none 0 0]) (t := 24) ?hr ?_; (case hd => rfl); (case hg => rfl); (case hr => first | (go_simp; done) | (go_simp; rfl)); intro gb616 hg w63 hbox hb; have n0_ := As0.mk (Kd.R_below (Kd.R_elderB (by (with_reducible repeat (first | apply Kd.R_alloc | apply Kd.R_drewN | apply Kd.R_drew)); exact HO_11.out) gb616 (Nat.le_of_eq hg.symm)) hb); have n1_ := As0.mk (Kd.S_below (by (with_reducible repeat (first | apply Kd.S_alloc | apply Kd.S_drewN | apply Kd.S_drew)); exact HO614.out) hb); have n2_ := As0.mk (bkb (g := gb604) (o := .cells #[.int .i64 a0_0, .int .i64 a0_1, .int .i64 a0_2, .slice A0_3 l0_3.length c0_3] 24 (0, 0)) (by (with_reducible repeat (first | refine bkN ?_ _ | refine bkd ?_ | refine bka ?_ _)); exact BK604.out) hb); have n3_ := As0.mk (bwp (by repeat (first | (with_reducible first | exact HB.out | apply bwa | apply pwN | apply bwd | refine bws ?_ GE604.out) | exact HB.out)) hb); have n4_ := As0.mk (hbox); have n5_ := As0.mk ((by rw [hg]; exact (bwz (by repeat (first | (with_reducible first | exact HB.out | apply bwa | apply pwN | apply bwd | refine bws ?_ GE604.out) | exact HB.out))) : w.heap.size ≤ gb616)); have n6_ := As0.mk ((by rw [hg]; exact (bwz (by repeat (first | (with_reducible first | exact HB.out | apply bwa | apply pwN | apply bwd | refine bws ?_ GE604.out) | exact HB.out))) : w.heap.size ≤ gb616)); have n7_ := As0.mk ((by rw [hg]; exact Nat.ne_of_lt (blk_lt (g := gb604) (o := .cells #[.int .i64 a0_0, .int .i64 a0_1, .int .i64 a0_2, .slice A0_3 l0_3.length c0_3] 24 (0, 0)) (by (with_reducible repeat (first | refine bkN ?_ _ | refine bkd ?_ | refine bka ?_ _)); exact BK604.out)) : gb604 ≠ gb616)); have n8_ := As0.mk ((by rw [hg]; exact Nat.ne_of_gt (blk_lt (g := gb604) (o := .cells #[.int .i64 a0_0, .int .i64 a0_1, .int .i64 a0_2, .slice A0_3 l0_3.length c0_3] 24 (0, 0)) (by (with_reducible repeat (first | refine bkN ?_ _ | refine bkd ?_ | refine bka ?_ _)); exact BK604.out)) : gb616 ≠ gb604)); clear HO_11; clear HO614; clear BK604; clear HB; have HO_11 := n0_; have HO614 := n1_; have BK604 := n2_; have HB := n3_; have BK616 := n4_; have GW616 := n5_; have GE616 := n6_; have NB604_616 := n7_; have NB616_604 := n8_; clear n0_ n1_ n2_ n3_ n4_ n5_ n6_ n7_ n8_; clear hb hbox hg; have hnb64 := NB616_604.out; have hnc64 := NB604_616.out; have hcz65_0 : w63.cell? ⟨gb616, 0, none⟩ = some (.int .i64 0) := (bkc BK616.out 0).trans rfl; have hcz65_1 : w63.cell? ⟨gb616, 1, none⟩ = some (.int .i64 0) := (bkc BK616.out 1).trans rfl; have hcz65_2 : w63.cell? ⟨gb616, 2, none⟩ = some (.int .i64 0) := (bkc BK616.out 2).trans rfl; have hcz65_3 : w63.cell? ⟨gb616, 3, none⟩ = some (.slice none 0 0) := (bkc BK616.out 3).trans rfl; have hfz65_0 := bkz BK616.out 0; have hfz65_1 := bkz BK616.out 1; have hfz65_2 := bkz BK616.out 2; have hfz65_3 := bkz BK616.out 3; obtain ⟨Ao66, co66, eo66⟩ := Kd.S_slice HO614.out; subst eo66)))
               go_ret
               exact ⟨by first | rfl | (simp [errW_none, errW_some] <;> rfl) | (simp [*, errW_none, errW_some] <;> rfl), by repeat (first | (with_reducible first | exact HB.out | apply bwa | apply pwN | apply bwd | refine bws ?_ GE604.out | refine bws ?_ GE616.out) | exact HB.out)⟩
def pn (a b w X0 Y0 : Nat) (P : List Int) (t : Nat) : Int := if X0 + t % w < a ∧ Y0 + t / w < b then P.getD ((Y0 + t / w) * a + (X0 + t % w)) 0 else 0
def partRow (a b w h X0 Y0 : Nat) (P : List Int) : List Int := (List.range (w * h)).map (pn a b w X0 Y0 P)
theorem partRow_length (a b w h X0 Y0 : Nat) (P : List Int) : (partRow a b w h X0 Y0 P).length = w * h := by simp [partRow]
structure Cut (a b w h X0 Y0 : Nat) (ps : List (List Int)) : Prop where
 bnd : 1 ≤ a ∧ a ≤ 64 ∧ 1 ≤ b ∧ b ≤ 64 ∧ 1 ≤ w ∧ w ≤ 64 ∧ 1 ≤ h ∧ h ≤ 64 ∧ X0 ≤ 10000 ∧ Y0 ≤ 10000
 len : ps.length ≤ 1000
 rows : ∀ r ∈ ps, r.length = a * b
section
variable (a b w h X0 Y0 : Nat) (c : Int) (ps : List (List Int)) (H : Cut a b w h X0 Y0 ps)
include H in
theorem part_l1 (p : Nat) (P : List Int) (hP : ps[p]? = some P) (acc : List (List Int)) (hacc : acc.length ≤ 1000) (R : Option (Int × Int × Int × List (List Int)))
  (hR : Ev fun k => l15_part.l0 k (X0 : Int) (Y0 : Int) (w : Int) (h : Int) ((p + 1 : Nat) : Int) (a : Int) (b : Int) c ps (w : Int) (h : Int) c (acc ++ [partRow a b w h X0 Y0 P]) = R) :
  ∀ (n t : Nat), t + n = w * h → Ev fun k => l15_part.l1 k (X0 : Int) (Y0 : Int) (w : Int) (h : Int) p ((partRow a b w h X0 Y0 P).take t ++ List.replicate (w * h - t) 0) t (a : Int) (b : Int) c ps (w : Int) (h : Int) c acc = R := by
 have hb := H.bnd
 have hWH : w * h ≤ 64 * 64 := Nat.mul_le_mul (by omega) (by omega)
 have hpl := (List.getElem?_eq_some_iff.1 hP).1
 have hPl := H.rows _ (List.mem_of_getElem? hP)
 have hlen := partRow_length a b w h X0 Y0 P
 intro n
 induction n with
 | zero =>
  intro t ht
  have ht : t = w * h := by omega
  subst ht
  refine Ev.step (fun k => ?_) hR
  rw [l15_part.l1, if_neg (by rw [List.length_append, List.length_take, List.length_replicate]; omega), if_pos (by omega), w64_succ p (by have := H.len; omega), List.take_of_length_le (by omega), Nat.sub_self]
  simp
 | succ n ih =>
  intro t ht
  obtain ⟨ci, hci⟩ : ∃ i, i = t % w := ⟨_, rfl⟩
  obtain ⟨cj, hcj⟩ : ∃ j, j = t / w := ⟨_, rfl⟩
  have hi : ci < w := by rw [hci]; exact Nat.mod_lt _ (by omega)
  have hj : cj < h := by rw [hcj, Nat.div_lt_iff_lt_mul (by omega), Nat.mul_comm]; omega
  have em : As0 (Int.tmod (t : Int) (w : Int) = (ci : Int)) := ⟨by rw [Int.tmod_eq_emod_of_nonneg (Int.natCast_nonneg _), ← Int.natCast_emod, hci]⟩
  have ed : As0 (Int.tdiv (t : Int) (w : Int) = (cj : Int)) := ⟨by rw [Int.tdiv_eq_ediv_of_nonneg (Int.natCast_nonneg _), ← Int.natCast_ediv, hcj]⟩
  have hx : (partRow a b w h X0 Y0 P)[t]? = some (pn a b w X0 Y0 P t) := by simp [partRow, show t < w * h by omega]
  have hpn : As0 (pn a b w X0 Y0 P t = if X0 + ci < a ∧ Y0 + cj < b then P.getD ((Y0 + cj) * a + (X0 + ci)) 0 else 0) := ⟨by rw [hci, hcj]; rfl⟩
  clear hci hcj
  have w2 : As0 (wrap64 (cj : Int) = (cj : Int)) := ⟨w64_id _ (by omega) (by omega)⟩
  have w3 : As0 (wrap64 ((X0 : Int) + (ci : Int)) = ((X0 + ci : Nat) : Int)) := ⟨by rw [w64_id _ (by omega) (by omega)]; rfl⟩
  have w4 : As0 (wrap64 ((Y0 : Int) + (cj : Int)) = ((Y0 + cj : Nat) : Int)) := ⟨by rw [w64_id _ (by omega) (by omega)]; rfl⟩
  have hts : ((partRow a b w h X0 Y0 P).take t ++ List.replicate (w * h - t) 0).length = w * h := by rw [List.length_append, List.length_take, List.length_replicate]; omega
  have hset := take_set (partRow a b w h X0 Y0 P) 0 t (w * h) hlen (by omega) _ hx
  refine Ev.step (fun k => ?_) (ih (t + 1) (by omega))
  rw [l15_part.l1, if_pos (by omega), if_neg (by omega), em.out, ed.out, w2.out, w3.out, w4.out, w64_succ t (by omega)]
  by_cases c1 : X0 + ci < a
  ·rw [if_pos (by omega)]
   by_cases c2 : Y0 + cj < b
   ·have hm : (Y0 + cj) * a + a ≤ a * b := by rw [← Nat.succ_mul, Nat.mul_comm a b]; exact Nat.mul_le_mul_right _ (by omega)
    have hab : a * b ≤ 64 * 64 := Nat.mul_le_mul (by omega) (by omega)
    have w5 : As0 (wrap64 (((Y0 + cj : Nat) : Int) * (a : Int)) = (((Y0 + cj) * a : Nat) : Int)) := ⟨by rw [← Int.natCast_mul]; exact w64_id _ (by omega) (by omega)⟩
    have w6 : As0 (wrap64 ((((Y0 + cj) * a : Nat) : Int) + ((X0 + ci : Nat) : Int)) = (((Y0 + cj) * a + (X0 + ci) : Nat) : Int)) := ⟨by rw [w64_id _ (by omega) (by omega)]; rfl⟩
    rw [if_pos (by omega), if_pos (by omega), if_pos (by omega), w5.out, w6.out, if_pos (by omega), rdL1_at ps p P hP, if_pos (by omega), if_pos (by omega), Int.toNat_natCast]
    rw [← hset]
    congr 2
    rw [hpn.out, if_pos ⟨c1, c2⟩]
    show P.getD ((((Y0 + cj) * a + (X0 + ci) : Nat) : Int).toNat) 0 = P.getD ((Y0 + cj) * a + (X0 + ci)) 0
    rw [Int.toNat_natCast]
   ·rw [if_neg (by omega)]
    rw [← hset, hpn.out, if_neg (fun hh => c2 hh.2)]
    congr 1
    have hz : ((partRow a b w h X0 Y0 P).take t ++ List.replicate (w * h - t) (0 : Int)).set t 0 = (partRow a b w h X0 Y0 P).take t ++ List.replicate (w * h - t) 0 := by
     have h1 : ((partRow a b w h X0 Y0 P).take t).length = t := by rw [List.length_take]; omega
     rw [List.set_append, h1, if_neg (by omega), Nat.sub_self, show w * h - t = (w * h - (t + 1)) + 1 by omega, List.replicate_succ, List.set_cons_zero]
    exact hz.symm
  ·rw [if_neg (by omega)]
   rw [← hset, hpn.out, if_neg (fun hh => c1 hh.1)]
   congr 1
   have hz : ((partRow a b w h X0 Y0 P).take t ++ List.replicate (w * h - t) (0 : Int)).set t 0 = (partRow a b w h X0 Y0 P).take t ++ List.replicate (w * h - t) 0 := by
    have h1 : ((partRow a b w h X0 Y0 P).take t).length = t := by rw [List.length_take]; omega
    rw [List.set_append, h1, if_neg (by omega), Nat.sub_self, show w * h - t = (w * h - (t + 1)) + 1 by omega, List.replicate_succ, List.set_cons_zero]
   exact hz.symm
include H in
theorem part_l0 : ∀ (n p : Nat), p + n = ps.length → Ev fun k => l15_part.l0 k (X0 : Int) (Y0 : Int) (w : Int) (h : Int) p (a : Int) (b : Int) c ps (w : Int) (h : Int) c ((ps.take p).map (partRow a b w h X0 Y0)) = some ((w : Int), (h : Int), c, ps.map (partRow a b w h X0 Y0)) := by
 have hb := H.bnd
 have hWH : w * h ≤ 64 * 64 := Nat.mul_le_mul (by omega) (by omega)
 have hl := H.len
 have wz : As0 (wrap64 ((w : Int) * (h : Int)) = ((w * h : Nat) : Int)) := ⟨by rw [← Int.natCast_mul]; exact w64_id _ (by omega) (by omega)⟩
 intro n
 induction n with
 | zero =>
  intro p hp
  refine Ev.const fun k => ?_
  rw [l15_part.l0, if_neg (by omega), List.take_of_length_le (by omega)]
 | succ n ih =>
  intro p hp
  have hpl : p < ps.length := by omega
  have hx : ps[p]? = some ps[p] := List.getElem?_eq_getElem hpl
  have t1 : (ps.take (p + 1)).map (partRow a b w h X0 Y0) = (ps.take p).map (partRow a b w h X0 Y0) ++ [partRow a b w h X0 Y0 ps[p]] := by rw [List.take_add_one, hx, Option.toList_some, List.map_append]; rfl
  have hih := ih (p + 1) (by omega)
  rw [t1] at hih
  have h1 := part_l1 a b w h X0 Y0 c ps H p _ hx _ (by rw [List.length_map, List.length_take]; omega) _ hih (w * h) 0 (by omega)
  refine Ev.step (fun k => ?_) h1
  rw [l15_part.l0, if_pos (by omega), wz.out, if_pos (by omega), if_pos (by omega), Int.toNat_natCast, List.take_zero, List.nil_append, Nat.sub_zero]
  rfl
include H in
theorem part_is : Ev fun k => l15_part.f k (a : Int) (b : Int) c ps (X0 : Int) (Y0 : Int) (w : Int) (h : Int) = some ((w : Int), (h : Int), c, ps.map (partRow a b w h X0 Y0)) := part_l0 a b w h X0 Y0 c ps H ps.length 0 (by omega)
end
theorem pt_right (cw ch x y : Int) (mw : Nat) (row mrow P : List Int) (hrow : row.length = P.length) (N : Nat) (hr : ∀ t, t < N → pixOk cw ch x y mw t = true → pixAt cw x y mw t < P.length ∧ mrow.getD t 0 = P.getD (pixAt cw x y mw t) 0) :
  ∀ t, t ≤ N → (∀ q, row.getD q 0 = P.getD q 0 → (pt cw ch x y mw row mrow t).getD q 0 = P.getD q 0) ∧ ∀ t', t' < t → pixOk cw ch x y mw t' = true → (pt cw ch x y mw row mrow t).getD (pixAt cw x y mw t') 0 = P.getD (pixAt cw x y mw t') 0 := by
 intro t
 induction t with
 | zero => exact fun _ => ⟨fun q h => h, fun t' ht' => by omega⟩
 | succ t ih =>
  intro ht
  obtain ⟨i1, i2⟩ := ih (by omega)
  have hlen := pt_length cw ch x y mw row mrow t
  unfold pt
  by_cases hok : pixOk cw ch x y mw t = true
  ·rw [if_pos hok]
   obtain ⟨r1, r2⟩ := hr t (by omega) hok
   have key : ∀ q, (pt cw ch x y mw row mrow t).getD q 0 = P.getD q 0 → ((pt cw ch x y mw row mrow t).set (pixAt cw x y mw t) (mrow.getD t 0)).getD q 0 = P.getD q 0 := by
    intro q hq
    by_cases he : pixAt cw x y mw t = q
    ·subst he
     rw [List.getD_eq_getElem?_getD, List.getElem?_set_self (by omega)]
     exact r2
    ·rw [List.getD_eq_getElem?_getD, List.getElem?_set_ne he, ← List.getD_eq_getElem?_getD]
     exact hq
   refine ⟨fun q hq => key q (i1 q hq), fun t' ht' hok' => ?_⟩
   by_cases he : t' = t
   ·subst he
    rw [List.getD_eq_getElem?_getD, List.getElem?_set_self (by omega)]
    exact r2
   ·exact key _ (i2 t' (by omega) hok')
  ·rw [if_neg hok]
   refine ⟨i1, fun t' ht' hok' => ?_⟩
   by_cases he : t' = t
   ·subst he; exact absurd hok' hok
   ·exact i2 t' (by omega) hok'
def partItem (a b w h cols : Nat) (c : Int) (ps : List (List Int)) (n : Nat) : S24 := ⟨(w : Int), (h : Int), c, ps.map (partRow a b w h ((n % cols) * w) ((n / cols) * h))⟩
def partList (a b w h cols rows : Nat) (c : Int) (ps : List (List Int)) : List S24 := (List.range (rows * cols)).map (partItem a b w h cols c ps)
structure Cuts (a b w h cols rows : Nat) (c : Int) (ps : List (List Int)) : Prop where
 bnd : 1 ≤ a ∧ a ≤ 64 ∧ 1 ≤ b ∧ b ≤ 64 ∧ 1 ≤ w ∧ w ≤ a ∧ 1 ≤ h ∧ h ≤ b ∧ 1 ≤ cols ∧ cols ≤ 8 ∧ 1 ≤ rows ∧ rows ≤ 8
 fitX : (cols - 1) * w < a ∧ a ≤ cols * w
 fitY : (rows - 1) * h < b ∧ b ≤ rows * h
 chk : picture_Check.f (a : Int) (b : Int) c ps = some 0
section
variable (a b w h cols rows : Nat) (c : Int) (ps : List (List Int)) (H : Cuts a b w h cols rows c ps)
include H in
theorem Cuts.good : (1 ≤ c ∧ c ≤ 12) ∧ (0 < ps.length ∧ ps.length ≤ 4) ∧ (∀ r ∈ ps, r.length = a * b) ∧ ∀ r ∈ ps, inB c r := by
 obtain ⟨_, _, _, _, h5, h6, h7, h8, h9, h10⟩ := check_zero _ _ _ _ H.chk
 exact ⟨⟨h5, h6⟩, ⟨h7, h8⟩, fun r hr => by have := h9 r hr; simpa using this, okPlanes_all c ps h10⟩
theorem partList_get (n : Nat) (hn : n < rows * cols) : (partList a b w h cols rows c ps)[n]? = some (partItem a b w h cols c ps n) := by simp [partList, hn]
theorem partList_rd (n : Nat) (hn : n < rows * cols) : rd_T24 (partList a b w h cols rows c ps) (n : Int) = partItem a b w h cols c ps n := rdT24_at _ _ _ (partList_get a b w h cols rows c ps n hn)
include H in
theorem part_check (n : Nat) : chk24 (partItem a b w h cols c ps n) = some 0 := by
 have hb := H.bnd
 obtain ⟨g1, g2, g3, g4⟩ := H.good
 refine check_make w h c _ (by omega) (by omega) g1 (by show 0 < (ps.map _).length ∧ (ps.map _).length ≤ 4; rw [List.length_map]; exact g2) (fun r hr => ?_) (fun r hr v hv => ?_)
 ·obtain ⟨P, _, rfl⟩ := List.mem_map.1 hr
  exact partRow_length ..
 ·obtain ⟨P, hP, rfl⟩ := List.mem_map.1 hr
  unfold partRow at hv
  obtain ⟨t, _, rfl⟩ := List.mem_map.1 hv
  unfold pn
  split
  ·exact inB.getD (g4 P hP) _
  ·have h0 : inB c ([] : List Int) := fun v hv => by cases hv
   have := inB.getD h0 0
   simpa using this
include H in
theorem cuts_good : GridGood (partList a b w h cols rows c ps) (rows : Int) (cols : Int) (a : Int) (b : Int) := by
 have hb := H.bnd
 have hrc : rows * cols ≤ 8 * 8 := Nat.mul_le_mul (by omega) (by omega)
 have hpos : 0 < rows * cols := Nat.mul_pos (by omega) (by omega)
 have h0 : rd_T24 (partList a b w h cols rows c ps) 0 = partItem a b w h cols c ps 0 := partList_rd a b w h cols rows c ps 0 hpos
 refine ⟨?_, fun x hx => ?_, ?_, ?_⟩
 ·have e : ((partList a b w h cols rows c ps).length : Int) = wrap64 ((rows : Int) * (cols : Int)) := by
   rw [← Int.natCast_mul, w64_idn _ (by omega)]
   simp [partList]
  simp only [btw, Bool.and_eq_true, decide_eq_true_eq, beq_iff_eq]
  exact ⟨⟨⟨⟨by omega, by omega⟩, by omega⟩, by omega⟩, e⟩
 ·unfold partList at hx
  obtain ⟨n, _, rfl⟩ := List.mem_map.1 hx
  exact part_check a b w h cols rows c ps H n
 ·rw [List.any_eq_false]
  intro x hx
  unfold partList at hx
  obtain ⟨n, _, rfl⟩ := List.mem_map.1 hx
  rw [h0]
  simp [offB, partItem]
 ·rw [h0]
  show fitB (rows : Int) (cols : Int) (a : Int) (b : Int) ⟨(w : Int), (h : Int), c, _⟩ = true
  have m1 : (cols - 1) * w ≤ 8 * 64 := Nat.mul_le_mul (by omega) (by omega)
  have m2 : cols * w ≤ 8 * 64 := Nat.mul_le_mul (by omega) (by omega)
  have m3 : (rows - 1) * h ≤ 8 * 64 := Nat.mul_le_mul (by omega) (by omega)
  have m4 : rows * h ≤ 8 * 64 := Nat.mul_le_mul (by omega) (by omega)
  have n1 : (cols : Int) - 1 = ((cols - 1 : Nat) : Int) := by omega
  have n3 : (rows : Int) - 1 = ((rows - 1 : Nat) : Int) := by omega
  have e1 : As0 (wrap64 (wrap64 ((cols : Int) - 1) * (w : Int)) = (((cols - 1) * w : Nat) : Int)) := ⟨by
   rw [n1, w64_idn (cols - 1) (by omega), ← Int.natCast_mul]; exact w64_idn _ (by omega)⟩
  have e2 : As0 (wrap64 ((cols : Int) * (w : Int)) = ((cols * w : Nat) : Int)) := ⟨by rw [← Int.natCast_mul]; exact w64_idn _ (by omega)⟩
  have e3 : As0 (wrap64 (wrap64 ((rows : Int) - 1) * (h : Int)) = (((rows - 1) * h : Nat) : Int)) := ⟨by
   rw [n3, w64_idn (rows - 1) (by omega), ← Int.natCast_mul]; exact w64_idn _ (by omega)⟩
  have e4 : As0 (wrap64 ((rows : Int) * (h : Int)) = ((rows * h : Nat) : Int)) := ⟨by rw [← Int.natCast_mul]; exact w64_idn _ (by omega)⟩
  unfold fitB
  dsimp only
  rw [e1.out, e2.out, e3.out, e4.out]
  have hX := H.fitX
  have hY := H.fitY
  simp only [Bool.and_eq_true, decide_eq_true_eq]
  exact ⟨⟨by omega, by omega⟩, by omega, by omega⟩
def rightAt (a b w h cols : Nat) (n : Nat) (R P : List Int) : Prop := ∀ t, t < w * h → pixOk (a : Int) (b : Int) (((n % cols) * w : Nat) : Int) (((n / cols) * h : Nat) : Int) w t = true →
 R.getD (pixAt (a : Int) (((n % cols) * w : Nat) : Int) (((n / cols) * h : Nat) : Int) w t) 0 = P.getD (pixAt (a : Int) (((n % cols) * w : Nat) : Int) (((n / cols) * h : Nat) : Int) w t) 0
theorem pix_nat (a b X0 Y0 w t : Nat) (ha : 1 ≤ a) (hok : pixOk (a : Int) (b : Int) (X0 : Int) (Y0 : Int) w t = true) : (X0 + t % w < a ∧ Y0 + t / w < b) ∧ pixAt (a : Int) (X0 : Int) (Y0 : Int) w t = (Y0 + t / w) * a + (X0 + t % w) := by
 have h1 := hok
 unfold pixOk at h1
 simp only [btw, Bool.and_eq_true, decide_eq_true_eq] at h1
 refine ⟨by omega, ?_⟩
 unfold pixAt
 rw [show ((Y0 : Int) + ((t / w : Nat) : Int)) * (a : Int) + (X0 : Int) + ((t % w : Nat) : Int) = (((Y0 + t / w) * a + (X0 + t % w) : Nat) : Int) by push_cast; rw [Int.add_assoc], Int.toNat_natCast]
include H in
theorem tl_right : ∀ (n : Nat), n ≤ rows * cols → ∀ (p : Nat) (P : List Int), ps[p]? = some P → ∃ R, (tlN a b cols ps.length (partList a b w h cols rows c ps) n)[p]? = some R ∧ R.length = a * b ∧ ∀ n' : Nat, n' < n → rightAt a b w h cols n' R P := by
 have hb := H.bnd
 obtain ⟨g1, g2, g3, g4⟩ := H.good
 intro n
 induction n with
 | zero =>
  intro _ p P hP
  have hpl := (List.getElem?_eq_some_iff.1 hP).1
  exact ⟨List.replicate (a * b) 0, by simp [tlN, hpl], by simp, fun n' hn' => by omega⟩
 | succ n ih =>
  intro hn p P hP
  obtain ⟨R, r1, r2, r3⟩ := ih (by omega) p P hP
  have hpl := (List.getElem?_eq_some_iff.1 hP).1
  have hPl := g3 _ (List.mem_of_getElem? hP)
  have hok := tlN_ok a b cols ps.length (partList a b w h cols rows c ps) n
  have hrd := partList_rd a b w h cols rows c ps n (by omega)
  have hstep : tlN a b cols ps.length (partList a b w h cols rows c ps) (n + 1) = putP (a : Int) (b : Int) (((n % cols) * w : Nat) : Int) (((n / cols) * h : Nat) : Int) w (w * h) (tlN a b cols ps.length (partList a b w h cols rows c ps) n) (ps.map (partRow a b w h ((n % cols) * w) ((n / cols) * h))) := by
   conv => lhs; unfold tlN
   rw [hrd]
   simp [partItem]
  have hget : (putP (a : Int) (b : Int) (((n % cols) * w : Nat) : Int) (((n / cols) * h : Nat) : Int) w (w * h) (tlN a b cols ps.length (partList a b w h cols rows c ps) n) (ps.map (partRow a b w h ((n % cols) * w) ((n / cols) * h))))[p]? =
    some (pt (a : Int) (b : Int) (((n % cols) * w : Nat) : Int) (((n / cols) * h : Nat) : Int) w R (partRow a b w h ((n % cols) * w) ((n / cols) * h) P) (w * h)) := by
   unfold putP
   rw [List.getElem?_map, List.getElem?_range (by rw [hok.1]; exact hpl)]
   simp [List.getD_eq_getElem?_getD, r1, hP]
  have hpr := pt_right (a : Int) (b : Int) (((n % cols) * w : Nat) : Int) (((n / cols) * h : Nat) : Int) w R (partRow a b w h ((n % cols) * w) ((n / cols) * h) P) P (by omega) (w * h) (fun t ht hok' => by
   obtain ⟨⟨q1, q2⟩, q3⟩ := pix_nat a b _ _ w t (by omega) hok'
   rw [q3]
   refine ⟨?_, ?_⟩
   ·rw [hPl]
    have : ((n / cols) * h + t / w) * a + a ≤ a * b := by rw [← Nat.succ_mul, Nat.mul_comm a b]; exact Nat.mul_le_mul_right _ (by omega)
    omega
   ·have : (partRow a b w h ((n % cols) * w) ((n / cols) * h) P).getD t 0 = pn a b w ((n % cols) * w) ((n / cols) * h) P t := by
     simp [partRow, List.getD_eq_getElem?_getD, ht]
    rw [this]
    unfold pn
    rw [if_pos ⟨q1, q2⟩]) (w * h) (Nat.le_refl _)
  refine ⟨_, by rw [hstep]; exact hget, by rw [pt_length]; exact r2, fun n' hn' t ht hok' => ?_⟩
  by_cases he : n' = n
  ·subst he
   exact hpr.2 t ht hok'
  ·exact hpr.1 _ (r3 n' (by omega) t ht hok')
include H in
theorem tl_whole : tlN a b cols ps.length (partList a b w h cols rows c ps) (rows * cols) = ps := by
 have hb := H.bnd
 obtain ⟨g1, g2, g3, g4⟩ := H.good
 have hX := H.fitX
 have hY := H.fitY
 have hok := tlN_ok a b cols ps.length (partList a b w h cols rows c ps) (rows * cols)
 apply List.ext_getElem?
 intro p
 by_cases hpl : p < ps.length
 ·have hP : ps[p]? = some ps[p] := List.getElem?_eq_getElem hpl
  have hPl := g3 _ (List.getElem_mem hpl)
  generalize ps[p] = P at hP hPl
  obtain ⟨R, r1, r2, r3⟩ := tl_right a b w h cols rows c ps H (rows * cols) (Nat.le_refl _) p P hP
  rw [r1, hP]
  congr 1
  apply List.ext_getElem?
  intro q
  by_cases hq : q < a * b
  ·have hqa : q % a < a := Nat.mod_lt _ (by omega)
   have hqb : q / a < b := by rw [Nat.div_lt_iff_lt_mul (by omega), Nat.mul_comm]; exact hq
   obtain ⟨X, hXd⟩ : ∃ X, X = q % a := ⟨_, rfl⟩
   obtain ⟨Y, hYd⟩ : ∃ Y, Y = q / a := ⟨_, rfl⟩
   have hqe : q = Y * a + X := by rw [hXd, hYd, Nat.mul_comm]; exact (Nat.div_add_mod q a).symm
   rw [← hXd] at hqa
   rw [← hYd] at hqb
   clear hXd hYd
   have hi : X / w < cols := by rw [Nat.div_lt_iff_lt_mul (by omega)]; omega
   have hj : Y / h < rows := by rw [Nat.div_lt_iff_lt_mul (by omega)]; omega
   have hxm : X % w < w := Nat.mod_lt _ (by omega)
   have hym : Y % h < h := Nat.mod_lt _ (by omega)
   have hxd : w * (X / w) + X % w = X := Nat.div_add_mod X w
   have hyd : h * (Y / h) + Y % h = Y := Nat.div_add_mod Y h
   have n1 : (Y / h * cols + X / w) % cols = X / w := by rw [Nat.mul_comm, Nat.mul_add_mod, Nat.mod_eq_of_lt hi]
   have n2 : (Y / h * cols + X / w) / cols = Y / h := by rw [Nat.mul_comm, Nat.mul_add_div (by omega), Nat.div_eq_of_lt hi, Nat.add_zero]
   have t1 : (Y % h * w + X % w) % w = X % w := by rw [Nat.mul_comm, Nat.mul_add_mod, Nat.mod_eq_of_lt hxm]
   have t2 : (Y % h * w + X % w) / w = Y % h := by rw [Nat.mul_comm, Nat.mul_add_div (by omega), Nat.div_eq_of_lt hxm, Nat.add_zero]
   have hn : Y / h * cols + X / w < rows * cols := by
    have := Nat.mul_le_mul_right cols (show Y / h + 1 ≤ rows by omega)
    rw [Nat.add_mul, Nat.one_mul] at this
    omega
   have ht : Y % h * w + X % w < w * h := by
    have := Nat.mul_le_mul_right w (show Y % h + 1 ≤ h by omega)
    rw [Nat.add_mul, Nat.one_mul, Nat.mul_comm h w] at this
    omega
   have hr := r3 _ hn _ ht
   rw [n1, n2] at hr
   have hox : ((X / w * w : Nat) : Int) + ((X % w : Nat) : Int) = (X : Int) := by rw [Nat.mul_comm]; omega
   have hoy : ((Y / h * h : Nat) : Int) + ((Y % h : Nat) : Int) = (Y : Int) := by rw [Nat.mul_comm]; omega
   have hpo : pixOk (a : Int) (b : Int) ((X / w * w : Nat) : Int) ((Y / h * h : Nat) : Int) w (Y % h * w + X % w) = true := by
    unfold pixOk
    rw [t1, t2, hox, hoy]
    simp only [btw, Bool.and_eq_true, decide_eq_true_eq]
    omega
   have hr2 := hr hpo
   have hpa : pixAt (a : Int) ((X / w * w : Nat) : Int) ((Y / h * h : Nat) : Int) w (Y % h * w + X % w) = q := by
    unfold pixAt
    rw [t1, t2, hoy, Int.add_assoc, hox, hqe]
    rw [show (Y : Int) * (a : Int) + (X : Int) = ((Y * a + X : Nat) : Int) by push_cast; rfl, Int.toNat_natCast]
   rw [hpa] at hr2
   rw [List.getElem?_eq_getElem (by omega), List.getElem?_eq_getElem (by omega)]
   rw [List.getD_eq_getElem?_getD, List.getD_eq_getElem?_getD, List.getElem?_eq_getElem (by omega), List.getElem?_eq_getElem (by omega)] at hr2
   exact congrArg some hr2
  ·rw [List.getElem?_eq_none (by omega), List.getElem?_eq_none (by omega)]
 ·rw [List.getElem?_eq_none (by rw [hok.1]; omega), List.getElem?_eq_none (by omega)]
end
section
variable (a b w h cols rows : Nat) (c : Int) (ps : List (List Int)) (H : Cuts a b w h cols rows c ps)
include H in
theorem parts_cut (i j : Nat) (hi : i < cols) (hj : j < rows) : Cut a b w h (i * w) (j * h) ps := by
 have hb := H.bnd
 obtain ⟨g1, g2, g3, g4⟩ := H.good
 have m1 : i * w ≤ 8 * 64 := Nat.mul_le_mul (by omega) (by omega)
 have m2 : j * h ≤ 8 * 64 := Nat.mul_le_mul (by omega) (by omega)
 exact ⟨⟨by omega, by omega, by omega, by omega, by omega, by omega, by omega, by omega, by omega, by omega⟩, by omega, g3⟩
include H in
theorem parts_end : Ev fun k => l15_ItemParts.l0 k (w : Int) (h : Int) (cols : Int) (rows : Int) (partList a b w h cols rows c ps) (rows : Int) (a : Int) (b : Int) c ps = some true := by
 have hb := H.bnd
 obtain ⟨g1, g2, g3, g4⟩ := H.good
 have hrc : rows * cols ≤ 8 * 8 := Nat.mul_le_mul (by omega) (by omega)
 have hpos : 0 < rows * cols := Nat.mul_pos (by omega) (by omega)
 have hlen : (partList a b w h cols rows c ps).length = rows * cols := by simp [partList]
 have h0 : rd_T24 (partList a b w h cols rows c ps) 0 = partItem a b w h cols c ps 0 := partList_rd a b w h cols rows c ps 0 hpos
 have hab : a * b ≤ 64 * 64 := Nat.mul_le_mul (by omega) (by omega)
 have hwh : w * h ≤ 64 * 64 := Nat.mul_le_mul (by omega) (by omega)
 obtain ⟨r, e1, _, _, e2⟩ := grid_is (partList a b w h cols rows c ps) (rows : Int) (cols : Int) (a : Int) (b : Int) ⟨by omega, fun x hx => by
  unfold partList at hx
  obtain ⟨n, _, rfl⟩ := List.mem_map.1 hx
  refine ⟨?_, fun q hq => ?_⟩
  ·show (ps.map _).length ≤ 8
   rw [List.length_map]; omega
  ·obtain ⟨P, _, rfl⟩ := List.mem_map.1 hq
   rw [partRow_length]; omega⟩
 have hr := e2 (cuts_good a b w h cols rows c ps H)
 have h2 : (partItem a b w h cols c ps 0).f2 = c := rfl
 have h3 : (partItem a b w h cols c ps 0).f3.length = ps.length := by show (ps.map _).length = _; rw [List.length_map]
 rw [h0, h2, h3, hlen, Int.toNat_natCast, Int.toNat_natCast, Int.toNat_natCast, tl_whole a b w h cols rows c ps H] at hr
 subst hr
 obtain ⟨K1, hK1⟩ := e1
 obtain ⟨K2, hK2⟩ := eq_image (a : Int) (b : Int) c ps (by omega) (fun r hr => by rw [g3 r hr]; omega)
 refine ⟨K1 + K2 + 1, fun k hk => ?_⟩
 obtain ⟨k, rfl⟩ : ∃ m, k = m + 1 := ⟨k - 1, by omega⟩
 show l15_ItemParts.l0 (k + 1) (w : Int) (h : Int) (cols : Int) (rows : Int) (partList a b w h cols rows c ps) (rows : Int) (a : Int) (b : Int) c ps = some true
 rw [l15_ItemParts.l0, if_neg (Int.lt_irrefl _), hK1 k (by omega), Option.bind_some, if_pos rfl]
 dsimp only
 rw [hK2 k (by omega), Option.bind_some, if_pos rfl]
 rfl
include H in
theorem parts_l1 (j : Nat) (hj : j < rows) (hE : Ev fun k => l15_ItemParts.l0 k (w : Int) (h : Int) (cols : Int) (rows : Int) ((List.range ((j + 1) * cols)).map (partItem a b w h cols c ps)) ((j + 1 : Nat) : Int) (a : Int) (b : Int) c ps = some true) :
  ∀ (n i : Nat), i + n = cols → Ev fun k => l15_ItemParts.l1 k (w : Int) (h : Int) (cols : Int) (rows : Int) ((List.range (j * cols + i)).map (partItem a b w h cols c ps)) (j : Int) (i : Int) (a : Int) (b : Int) c ps = some true := by
 have hb := H.bnd
 intro n
 induction n with
 | zero =>
  intro i hi
  have hw : As0 (wrap64 ((j : Int) + 1) = ((j + 1 : Nat) : Int)) := ⟨by unfold wrap64; omega⟩
  have hst : ∀ k, l15_ItemParts.l1 (k + 1) (w : Int) (h : Int) (cols : Int) (rows : Int) ((List.range (j * cols + i)).map (partItem a b w h cols c ps)) (j : Int) (i : Int) (a : Int) (b : Int) c ps =
    l15_ItemParts.l0 k (w : Int) (h : Int) (cols : Int) (rows : Int) ((List.range ((j + 1) * cols)).map (partItem a b w h cols c ps)) ((j + 1 : Nat) : Int) (a : Int) (b : Int) c ps := by
   intro k
   rw [l15_ItemParts.l1, if_neg (by omega), hw.out, Nat.succ_mul, show i = cols by omega]
  exact Ev.step hst hE
 | succ n ih =>
  intro i hi
  have hi' : i < cols := by omega
  have m1 : i * w ≤ 8 * 64 := Nat.mul_le_mul (by omega) (by omega)
  have m2 : j * h ≤ 8 * 64 := Nat.mul_le_mul (by omega) (by omega)
  have m3 : j * cols ≤ 8 * 8 := Nat.mul_le_mul (by omega) (by omega)
  have hp := part_is a b w h (i * w) (j * h) c ps (parts_cut a b w h cols rows c ps H i j hi' hj)
  have n1 : (j * cols + i) % cols = i := by rw [Nat.mul_comm, Nat.mul_add_mod, Nat.mod_eq_of_lt hi']
  have n2 : (j * cols + i) / cols = j := by rw [Nat.mul_comm, Nat.mul_add_div (by omega), Nat.div_eq_of_lt hi', Nat.add_zero]
  have hacc : (List.range (j * cols + (i + 1))).map (partItem a b w h cols c ps) = (List.range (j * cols + i)).map (partItem a b w h cols c ps) ++ [(⟨(w : Int), (h : Int), c, ps.map (partRow a b w h (i * w) (j * h))⟩ : S24)] := by
   rw [← Nat.add_assoc, List.range_succ, List.map_append, List.map_cons, List.map_nil]
   unfold partItem
   rw [n1, n2]
  have w1 : As0 (wrap64 ((i : Int) * (w : Int)) = ((i * w : Nat) : Int)) := ⟨by rw [← Int.natCast_mul]; exact w64_idn _ (by omega)⟩
  have w2 : As0 (wrap64 ((j : Int) * (h : Int)) = ((j * h : Nat) : Int)) := ⟨by rw [← Int.natCast_mul]; exact w64_idn _ (by omega)⟩
  have w3 : As0 (wrap64 ((i : Int) + 1) = ((i + 1 : Nat) : Int)) := ⟨by unfold wrap64; omega⟩
  have hst : ∀ k, l15_ItemParts.l1 (k + 1) (w : Int) (h : Int) (cols : Int) (rows : Int) ((List.range (j * cols + i)).map (partItem a b w h cols c ps)) (j : Int) (i : Int) (a : Int) (b : Int) c ps =
    (l15_part.f k (a : Int) (b : Int) c ps ((i * w : Nat) : Int) ((j * h : Nat) : Int) (w : Int) (h : Int)).bind fun t => l15_ItemParts.l1 k (w : Int) (h : Int) (cols : Int) (rows : Int) ((List.range (j * cols + i)).map (partItem a b w h cols c ps) ++ [(⟨t.1, t.2.1, t.2.2.1, t.2.2.2⟩ : S24)]) (j : Int) ((i + 1 : Nat) : Int) (a : Int) (b : Int) c ps := by
   intro k
   have hlt : ((List.range (j * cols + i)).map (partItem a b w h cols c ps)).length < 2932031007402 := by rw [List.length_map, List.length_range]; omega
   rw [l15_ItemParts.l1, if_pos (by omega), w1.out, w2.out, w3.out]
   simp only [if_pos hlt]
  refine Ev.step hst (Ev.bind hp ?_)
  have := ih (i + 1) (by omega)
  rw [hacc] at this
  exact this
include H in
theorem parts_l0 : ∀ (n j : Nat), j + n = rows → Ev fun k => l15_ItemParts.l0 k (w : Int) (h : Int) (cols : Int) (rows : Int) ((List.range (j * cols)).map (partItem a b w h cols c ps)) (j : Int) (a : Int) (b : Int) c ps = some true := by
 intro n
 induction n with
 | zero =>
  intro j hj
  obtain rfl : j = rows := by omega
  exact parts_end a b w h cols j c ps H
 | succ n ih =>
  intro j hj
  have hst : ∀ k, l15_ItemParts.l0 (k + 1) (w : Int) (h : Int) (cols : Int) (rows : Int) ((List.range (j * cols)).map (partItem a b w h cols c ps)) (j : Int) (a : Int) (b : Int) c ps =
    l15_ItemParts.l1 k (w : Int) (h : Int) (cols : Int) (rows : Int) ((List.range (j * cols)).map (partItem a b w h cols c ps)) (j : Int) 0 (a : Int) (b : Int) c ps := by
   intro k
   rw [l15_ItemParts.l0, if_pos (by omega)]
  exact Ev.step hst (parts_l1 a b w h cols rows c ps H j (by omega) (ih (j + 1) (by omega)) cols 0 (by omega))
end
theorem cover (a w : Nat) (hw : 1 ≤ w) (ha : w ≤ a) : 1 ≤ (a + w - 1) / w ∧ ((a + w - 1) / w - 1) * w < a ∧ a ≤ (a + w - 1) / w * w := by
 have e := Nat.div_add_mod (a + w - 1) w
 have m : (a + w - 1) % w < w := Nat.mod_lt _ (by omega)
 have g1 : 1 ≤ (a + w - 1) / w := (Nat.le_div_iff_mul_le (by omega)).2 (by omega)
 rw [Nat.mul_comm] at e
 refine ⟨g1, ?_, by omega⟩
 rw [Nat.sub_mul, Nat.one_mul]
 omega
theorem cover_int (a w : Nat) (ha : a ≤ 64) (hw : 1 ≤ w) (hwa : w ≤ a) : wrap64 (Int.tdiv (wrap64 ((wrap64 ((a : Int) + (w : Int))) - 1)) (w : Int)) = (((a + w - 1) / w : Nat) : Int) := by
 rw [← Int.natCast_add, w64_idn _ (by omega), show ((a + w : Nat) : Int) - 1 = ((a + w - 1 : Nat) : Int) by omega, w64_idn _ (by omega), ← Int.ofNat_tdiv]
 have : (a + w - 1) / w ≤ a + w - 1 := Nat.div_le_self _ _
 exact w64_idn _ (by omega)
theorem size_int (a x : Nat) (ha : 1 ≤ a) (h64 : a ≤ 64) (hx : x ≤ 255) : wrap64 ((Int.tmod (wrap64 (x : Int)) (a : Int)) + 1) = ((x % a + 1 : Nat) : Int) := by
 have : x % a < a := Nat.mod_lt _ (by omega)
 rw [w64_idn x (by omega), ← Int.ofNat_tmod]
 exact w64_idn (x % a + 1) (by omega)
theorem parts_j0_true (x1 x2 a b c : Int) (ps : List (List Int)) : Ev fun k => l15_ItemParts.j0 k x1 x2 true a b c ps = some true := ⟨1, fun k hk => by
 obtain ⟨k, rfl⟩ : ∃ m, k = m + 1 := ⟨k - 1, by omega⟩
 show l15_ItemParts.j0 (k + 1) x1 x2 true a b c ps = some true
 rw [l15_ItemParts.j0, if_pos rfl]
 rfl⟩
theorem parts_j0 (a b x1 x2 : Nat) (c : Int) (ps : List (List Int)) (hx1 : x1 ≤ 255) (hx2 : x2 ≤ 255) (ha : 1 ≤ a ∧ a ≤ 64) (hb : 1 ≤ b ∧ b ≤ 64) (hc : picture_Check.f (a : Int) (b : Int) c ps = some 0) : Ev fun k => l15_ItemParts.j0 k (x1 : Int) (x2 : Int) false (a : Int) (b : Int) c ps = some true := by
 obtain ⟨w, hw⟩ : ∃ w, w = x1 % a + 1 := ⟨_, rfl⟩
 obtain ⟨h, hh⟩ : ∃ h, h = x2 % b + 1 := ⟨_, rfl⟩
 have hwa : w ≤ a := by have := Nat.mod_lt x1 (show 0 < a by omega); omega
 have hhb : h ≤ b := by have := Nat.mod_lt x2 (show 0 < b by omega); omega
 obtain ⟨cols, hcols⟩ : ∃ n, n = (a + w - 1) / w := ⟨_, rfl⟩
 obtain ⟨rows, hrows⟩ : ∃ n, n = (b + h - 1) / h := ⟨_, rfl⟩
 have sw : As0 (wrap64 ((Int.tmod (wrap64 (x1 : Int)) (a : Int)) + 1) = (w : Int)) := ⟨by rw [size_int a x1 ha.1 ha.2 hx1, hw]⟩
 have sh : As0 (wrap64 ((Int.tmod (wrap64 (x2 : Int)) (b : Int)) + 1) = (h : Int)) := ⟨by rw [size_int b x2 hb.1 hb.2 hx2, hh]⟩
 have sc : As0 (wrap64 (Int.tdiv (wrap64 ((wrap64 ((a : Int) + (w : Int))) - 1)) (w : Int)) = (cols : Int)) := ⟨by rw [cover_int a w ha.2 (by omega) hwa, hcols]⟩
 have sr : As0 (wrap64 (Int.tdiv (wrap64 ((wrap64 ((b : Int) + (h : Int))) - 1)) (h : Int)) = (rows : Int)) := ⟨by rw [cover_int b h hb.2 (by omega) hhb, hrows]⟩
 obtain ⟨d1, d2, d3⟩ := cover a w (by omega) hwa
 obtain ⟨f1, f2, f3⟩ := cover b h (by omega) hhb
 rw [← hcols] at d1 d2 d3
 rw [← hrows] at f1 f2 f3
 have hj1 : Ev fun k => l15_ItemParts.j1 k (w : Int) (h : Int) (cols : Int) (rows : Int) (decide ((cols : Int) > 8 ∨ (rows : Int) > 8)) (a : Int) (b : Int) c ps = some true := by
  by_cases hbig : (cols : Int) > 8 ∨ (rows : Int) > 8
  ·refine ⟨1, fun k hk => ?_⟩
   obtain ⟨k, rfl⟩ : ∃ m, k = m + 1 := ⟨k - 1, by omega⟩
   show l15_ItemParts.j1 (k + 1) (w : Int) (h : Int) (cols : Int) (rows : Int) _ (a : Int) (b : Int) c ps = some true
   rw [l15_ItemParts.j1, if_pos (decide_eq_true hbig)]
   rfl
  ·have H : Cuts a b w h cols rows c ps := ⟨⟨ha.1, ha.2, hb.1, hb.2, by omega, hwa, by omega, hhb, d1, by omega, f1, by omega⟩, ⟨d2, d3⟩, ⟨f2, f3⟩, hc⟩
   have h0 := parts_l0 a b w h cols rows c ps H rows 0 (by omega)
   rw [Nat.zero_mul] at h0
   have hst : ∀ k, l15_ItemParts.j1 (k + 1) (w : Int) (h : Int) (cols : Int) (rows : Int) (decide ((cols : Int) > 8 ∨ (rows : Int) > 8)) (a : Int) (b : Int) c ps = l15_ItemParts.l0 k (w : Int) (h : Int) (cols : Int) (rows : Int) ([] : List S24) 0 (a : Int) (b : Int) c ps := by
    intro k
    rw [l15_ItemParts.j1, if_neg (by simpa using hbig)]
   exact Ev.step hst h0
 have hst : ∀ k, l15_ItemParts.j0 (k + 1) (x1 : Int) (x2 : Int) false (a : Int) (b : Int) c ps = l15_ItemParts.j1 k (w : Int) (h : Int) (cols : Int) (rows : Int) (decide ((cols : Int) > 8 ∨ (rows : Int) > 8)) (a : Int) (b : Int) c ps := by
  intro k
  rw [l15_ItemParts.j0, if_neg (by decide), if_neg (by omega), if_neg (by omega), sw.out, sh.out, if_neg (by omega), if_neg (by omega), sc.out, sr.out]
  by_cases h8 : (cols : Int) > 8
  ·rw [if_pos h8, decide_eq_true (Or.inl h8)]
  ·rw [if_neg h8]
   congr 1
   simp [h8]
 exact Ev.step hst hj1
theorem item_parts_law (a b c : Int) (ps : List (List Int)) (x1 x2 : Int) (hl : ps.length ≤ 9223372036854775807) (h1 : 0 ≤ x1 ∧ x1 ≤ 255) (h2 : 0 ≤ x2 ∧ x2 ≤ 255) : Ev fun k => l15_ItemParts.f k a b c ps x1 x2 = some true := by
 obtain ⟨p, hp1, hp2⟩ := plain_l0 a b c ps hl ps.length 0 (by omega)
 rw [List.drop_zero] at hp2
 obtain ⟨K1, hK1⟩ := hp1
 have f1 : ∀ k ≥ K1, l15_plain.f k a b c ps = some p := hK1
 cases p with
 | false =>
  obtain ⟨K2, hK2⟩ := parts_j0_true x1 x2 a b c ps
  refine ⟨K1 + K2, fun k hk => ?_⟩
  show l15_ItemParts.f k a b c ps x1 x2 = some true
  unfold l15_ItemParts.f
  rw [f1 k (by omega), Option.bind_some, if_neg (by decide)]
  exact hK2 k (by omega)
 | true =>
  obtain ⟨hl8, hr⟩ := hp2 rfl
  have f2 := check_is a b c ps hl8 hr
  obtain ⟨e, he⟩ : ∃ e, picture_Check.f a b c ps = some e := ⟨_, rfl⟩
  obtain ⟨K2, hK2⟩ : Ev fun k => l15_ItemParts.j0 k x1 x2 (e != 0) a b c ps = some true := by
   by_cases h0 : e = 0
   ·subst h0
    obtain ⟨z1, z2, z3, z4, _⟩ := check_zero _ _ _ _ he
    obtain ⟨a, rfl⟩ : ∃ n : Nat, a = n := ⟨a.toNat, by omega⟩
    obtain ⟨b, rfl⟩ : ∃ n : Nat, b = n := ⟨b.toNat, by omega⟩
    obtain ⟨x1, rfl⟩ : ∃ n : Nat, x1 = n := ⟨x1.toNat, by omega⟩
    obtain ⟨x2, rfl⟩ : ∃ n : Nat, x2 = n := ⟨x2.toNat, by omega⟩
    exact parts_j0 a b x1 x2 c ps (by omega) (by omega) (by omega) (by omega) he
   ·rw [show (e != 0) = true by simpa using h0]
    exact parts_j0_true ..
  refine ⟨K1 + K2 + 60000, fun k hk => ?_⟩
  show l15_ItemParts.f k a b c ps x1 x2 = some true
  unfold l15_ItemParts.f
  rw [f1 k (by omega), Option.bind_some, if_pos rfl, f2 k (by omega), he, Option.bind_some]
  exact hK2 k (by omega)
end Go.Proofs.YtphkionjjhhhlaaGreat.Q
end
