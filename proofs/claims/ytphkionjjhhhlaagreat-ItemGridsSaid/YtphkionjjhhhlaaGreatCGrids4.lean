/- Lemmas and walks of this proof (part 4). -/
import Derived.Test.YtphkionjjhhhlaaGreatCGrids3
set_option linter.unusedVariables false
set_option linter.unusedSimpArgs false
section
namespace Go.Proofs.YtphkionjjhhhlaaGreat.Q
open Go.RowKit Go.Proofs.YtphkionjjhhhlaaGreatW.PrintWords Go.Proofs.YtphkionjjhhhlaaGreatW.PrintLast Go.Proofs.YtphkionjjhhhlaaGreatW.PrintMore
mutual
def r15_drawn.l0 : Nat → Int → Int → Int → Int → Int → Int → List (List Int) → Int → Int → Int → List (List Int) → Option (Int × Int × Int × (List (List Int)))
 | 0, _, _, _, _, _, _, _, _, _, _, _ => none
 | k + 1, x2, x3, x10, x430000, x430001, x430002, x430003, x438000, x438001, x438002, x438003 => if x10 < (x430003.length : Int) then (r15_drawn.l1 k x2 x3 x10 0 x430000 x430001 x430002 x430003 x438000 x438001 x438002 x438003) else (some (x438000, x438001, x438002, x438003))
def r15_drawn.l1 : Nat → Int → Int → Int → Int → Int → Int → Int → List (List Int) → Int → Int → Int → List (List Int) → Option (Int × Int × Int × (List (List Int)))
 | 0, _, _, _, _, _, _, _, _, _, _, _, _ => none
 | k + 1, x2, x3, x10, x11, x430000, x430001, x430002, x430003, x438000, x438001, x438002, x438003 => if x11 < (wrap64 (x430000 * x430001)) then (if x430000 = 0 then (none) else (if (wrap64 (x2 + (Int.tmod x11 x430000))) ≥ 0 then (if (wrap64 (x2 + (Int.tmod x11 x430000))) < x438000 then (if (wrap64 (x3 + (wrap64 (Int.tdiv x11 x430000)))) ≥ 0 then (if (wrap64 (x3 + (wrap64 (Int.tdiv x11 x430000)))) < x438001 then (if 0 ≤ x10 then (if x10 < (x438003.length : Int) then (if x10 < (x430003.length : Int) then (if 0 ≤ x11 then (if x11 < ((rd_L1 x430003 x10).length : Int) then (if 0 ≤ (wrap64 ((wrap64 ((wrap64 (x3 + (wrap64 (Int.tdiv x11 x430000)))) * x438000)) + (wrap64 (x2 + (Int.tmod x11 x430000))))) then (if (wrap64 ((wrap64 ((wrap64 (x3 + (wrap64 (Int.tdiv x11 x430000)))) * x438000)) + (wrap64 (x2 + (Int.tmod x11 x430000))))) < ((rd_L1 x438003 x10).length : Int) then (r15_drawn.l1 k x2 x3 x10 (wrap64 (x11 + 1)) x430000 x430001 x430002 x430003 x438000 x438001 x438002 (x438003.set (x10 : Int).toNat ((rd_L1 x438003 x10).set ((wrap64 ((wrap64 ((wrap64 (x3 + (wrap64 (Int.tdiv x11 x430000)))) * x438000)) + (wrap64 (x2 + (Int.tmod x11 x430000))))) : Int).toNat (rd (rd_L1 x430003 x10) x11)))) else (none)) else (none)) else (none)) else (none)) else (none)) else (none)) else (none)) else (r15_drawn.l1 k x2 x3 x10 (wrap64 (x11 + 1)) x430000 x430001 x430002 x430003 x438000 x438001 x438002 x438003)) else (r15_drawn.l1 k x2 x3 x10 (wrap64 (x11 + 1)) x430000 x430001 x430002 x430003 x438000 x438001 x438002 x438003)) else (r15_drawn.l1 k x2 x3 x10 (wrap64 (x11 + 1)) x430000 x430001 x430002 x430003 x438000 x438001 x438002 x438003)) else (r15_drawn.l1 k x2 x3 x10 (wrap64 (x11 + 1)) x430000 x430001 x430002 x430003 x438000 x438001 x438002 x438003))) else (r15_drawn.l0 k x2 x3 (wrap64 (x10 + 1)) x430000 x430001 x430002 x430003 x438000 x438001 x438002 x438003)
end
def r15_drawn.f (k : Nat) (a0_0 : Int) (a0_1 : Int) (a0_2 : Int) (l0_3 : List (List Int)) (a1_0 : Int) (a1_1 : Int) (a1_2 : Int) (l1_3 : List (List Int)) (a2 : Int) (a3 : Int) : Option (Int × Int × Int × (List (List Int))) := (r00_CopyImage.f k a0_0 a0_1 a0_2 l0_3).bind fun bt431 => (r15_drawn.l0 k a2 a3 0 a1_0 a1_1 a1_2 l1_3 bt431.1 bt431.2.1 bt431.2.2.1 bt431.2.2.2)
def r15_drawn.T8 : Bool × List (List Nat × List Nat) := (true, [([], []), ([], []), ([], []), ([2], [2]), ([1, 3], [1, 3]), ([0, 4], [0, 4]), ([], []), ([], []), ([], []), ([8], [8]), ([7, 9], [7, 9]), ([6, 10], [6, 10]), ([5, 0, 1, 2, 3, 4, 5], [5]), ([11, 12, 0, 1, 2, 3, 4, 5, 6, 7, 8, 9, 10, 11, 12], [11])])
def r15_drawn.B8 : List Nat := [0, 0, 0, 4, 14, 31, 0, 0, 0, 256, 896, 1984, 63, 8191]
theorem r15_drawn.tab8 : rtab .any (opsOf Tryz.f69 8) = r15_drawn.T8 := by kernel_rfl
theorem r15_drawn.bits8 : waitsOk r15_drawn.T8.2 r15_drawn.B8 = true := by kernel_rfl
def r15_drawn.T10 : Bool × List (List Nat × List Nat) := (true, [([], []), ([0], [0]), ([], []), ([1, 2], [1, 2]), ([3], [3]), ([], []), ([], []), ([6], [6]), ([5, 7], [5, 7]), ([], []), ([8, 9], [8, 9]), ([], []), ([11], [11]), ([], []), ([12, 13], [12, 13]), ([14], [14]), ([], []), ([15, 16], [15, 16]), ([17], [17]), ([4, 10, 0, 1, 2, 3, 4, 5, 6, 7, 8, 9, 10, 11, 12, 13, 14, 15, 16, 17, 18], [4, 10]), ([19, 18, 0, 1, 2, 3, 4, 5, 6, 7, 8, 9, 10, 11, 12, 13, 14, 15, 16, 17, 18], [18, 19])])
def r15_drawn.B10 : List Nat := [0, 1, 0, 7, 15, 0, 0, 64, 224, 0, 992, 0, 2048, 0, 14336, 30720, 0, 129024, 260096, 524287, 1048575]
theorem r15_drawn.tab10 : rtab .any (opsOf Tryz.f69 10) = r15_drawn.T10 := by kernel_rfl
theorem r15_drawn.bits10 : waitsOk r15_drawn.T10.2 r15_drawn.B10 = true := by kernel_rfl
set_option maxHeartbeats 8000000 in
set_option maxRecDepth 100000 in
theorem r15_drawn.calls (k : Nat) (a0_0 : Int) (a0_1 : Int) (a0_2 : Int) (A0_3 : Option Addr) (c0_3 : Nat) (l0_3 : List (List Int)) (a1_0 : Int) (a1_1 : Int) (a1_2 : Int) (A1_3 : Option Addr) (c1_3 : Nat) (l1_3 : List (List Int)) (a2 : Int) (a3 : Int) (r1 : Int) (r2 : Int) (r3 : Int) (r4 : List (List Int)) (w : World) (hr0_3 : Kd.C (Kd.slice 3 (Kd.int .i64)) w A0_3 l0_3.length l0_3) (hc0_3 : l0_3.length ≤ c0_3) (hr1_3 : Kd.C (Kd.slice 3 (Kd.int .i64)) w A1_3 l1_3.length l1_3) (hc1_3 : l1_3.length ≤ c1_3) (h : r15_drawn.f k a0_0 a0_1 a0_2 l0_3 a1_0 a1_1 a1_2 l1_3 a2 a3 = some (r1, r2, r3, r4)) :
  Calls Tryz.prog 69 #[.agg #[.int .i64 a0_0, .int .i64 a0_1, .int .i64 a0_2, .slice A0_3 l0_3.length c0_3], .agg #[.int .i64 a1_0, .int .i64 a1_1, .int .i64 a1_2, .slice A1_3 l1_3.length c1_3], .int .i64 a2, .int .i64 a3] w fun e w' => ∃ v3_ : Value, e = .returned (.agg #[.int .i64 r1, .int .i64 r2, .int .i64 r3, v3_]) ∧ Kd.S (Kd.slice 3 (Kd.int .i64)) 39 w' w.heap.size (fun _ => True) v3_ r4 ∧ Below w.heap.size w w' := by
 have hu24 := Tryz.underlying24
 have HR0_3 := As0.mk hr0_3
 have HC0_3 := As0.mk hc0_3
 clear hr0_3 hc0_3
 have HR1_3 := As0.mk hr1_3
 have HC1_3 := As0.mk hc1_3
 clear hr1_3 hc1_3
 have HB := As0.mk (Below.refl w.heap.size w)
 have H : ((r00_CopyImage.f k a0_0 a0_1 a0_2 l0_3).bind fun bt431 => (r15_drawn.l0 k a2 a3 0 a1_0 a1_1 a1_2 l1_3 bt431.1 bt431.2.1 bt431.2.2.1 bt431.2.2.2)) = some (r1, r2, r3, r4) := h
 clear h
 replace H := Option.bind_eq_some_iff.mp H
 obtain ⟨⟨t431, t432, t433, t434⟩, A50, H⟩ := H
 replace H : (r15_drawn.l0 k a2 a3 0 a1_0 a1_1 a1_2 l1_3 t431 t432 t433 t434) = some (r1, r2, r3, r4) := H
 have A5 := As0.mk A50
 clear A50
 have H' := As0.mk H
 clear H
 go_enter Tryz.func69, Tryz.ntmps69
 go_wp2_with (first | ((with_reducible refine gdt (N := 4) rfl ?_); refine bxe ?hg (N := 4) ?hd (cs := #[.int .i64 a0_0, .int .i64 a0_1, .int .i64 a0_2, .slice A0_3 l0_3.length c0_3]) (t := 24) ?hr ?_; (case hd => rfl); (case hg => rfl); (case hr => first | (go_simp; done) | (go_simp; rfl)); intro gb428 hg w6 hbox hb; have n0_ := As0.mk (bwp (by repeat (first | (with_reducible first | exact HB.out | apply bwa | apply pwN | apply bwd) | exact HB.out)) hb); have n1_ := As0.mk (hbox); have n2_ := As0.mk ((by rw [hg]; exact (bwz (by repeat (first | (with_reducible first | exact HB.out | apply bwa | apply pwN | apply bwd) | exact HB.out))) : w.heap.size ≤ gb428)); have n3_ := As0.mk ((by rw [hg]; exact (bwz (by repeat (first | (with_reducible first | exact HB.out | apply bwa | apply pwN | apply bwd) | exact HB.out))) : w.heap.size ≤ gb428)); clear HB; have HB := n0_; have BK428 := n1_; have GW428 := n2_; have GE428 := n3_; clear n0_ n1_ n2_ n3_; clear hb hbox hg) | ((with_reducible refine gdt (N := 5) rfl ?_); refine bxe ?hg (N := 5) ?hd (cs := #[.int .i64 a1_0, .int .i64 a1_1, .int .i64 a1_2, .slice A1_3 l1_3.length c1_3]) (t := 24) ?hr ?_; (case hd => rfl); (case hg => rfl); (case hr => first | (go_simp; done) | (go_simp; rfl)); intro gb429 hg w7 hbox hb; have n0_ := As0.mk (bkb (g := gb428) (o := .cells #[.int .i64 a0_0, .int .i64 a0_1, .int .i64 a0_2, .slice A0_3 l0_3.length c0_3] 24 (0, 0)) (by (with_reducible repeat (first | refine bkN ?_ _ | refine bkd ?_ | refine bka ?_ _)); exact BK428.out) hb); have n1_ := As0.mk (bwp (by repeat (first | (with_reducible first | exact HB.out | apply bwa | apply pwN | apply bwd | refine bws ?_ GE428.out) | exact HB.out)) hb); have n2_ := As0.mk (hbox); have n3_ := As0.mk ((by rw [hg]; exact (bwz (by repeat (first | (with_reducible first | exact HB.out | apply bwa | apply pwN | apply bwd | refine bws ?_ GE428.out) | exact HB.out))) : w.heap.size ≤ gb429)); have n4_ := As0.mk ((by rw [hg]; exact (bwz (by repeat (first | (with_reducible first | exact HB.out | apply bwa | apply pwN | apply bwd | refine bws ?_ GE428.out) | exact HB.out))) : w.heap.size ≤ gb429)); have n5_ := As0.mk ((by rw [hg]; exact Nat.ne_of_lt (blk_lt (g := gb428) (o := .cells #[.int .i64 a0_0, .int .i64 a0_1, .int .i64 a0_2, .slice A0_3 l0_3.length c0_3] 24 (0, 0)) (by (with_reducible repeat (first | refine bkN ?_ _ | refine bkd ?_ | refine bka ?_ _)); exact BK428.out)) : gb428 ≠ gb429)); have n6_ := As0.mk ((by rw [hg]; exact Nat.ne_of_gt (blk_lt (g := gb428) (o := .cells #[.int .i64 a0_0, .int .i64 a0_1, .int .i64 a0_2, .slice A0_3 l0_3.length c0_3] 24 (0, 0)) (by (with_reducible repeat (first | refine bkN ?_ _ | refine bkd ?_ | refine bka ?_ _)); exact BK428.out)) : gb429 ≠ gb428)); clear BK428; clear HB; have BK428 := n0_; have HB := n1_; have BK429 := n2_; have GW429 := n3_; have GE429 := n4_; have NB428_429 := n5_; have NB429_428 := n6_; clear n0_ n1_ n2_ n3_ n4_ n5_ n6_; clear hb hbox hg) | ((with_reducible refine gdt (N := 8) rfl ?_); refine bxe ?hg (N := 8) ?hd (cs := #[.int .i64 0, .int .i64 0, .int .i64 0, .slice none 0 0]) (t := 24) ?hr ?_; (case hd => rfl); (case hg => rfl); (case hr => first | (go_simp; done) | (go_simp; rfl)); intro gb430 hg w8 hbox hb; have n0_ := As0.mk (bkb (g := gb428) (o := .cells #[.int .i64 a0_0, .int .i64 a0_1, .int .i64 a0_2, .slice A0_3 l0_3.length c0_3] 24 (0, 0)) (by (with_reducible repeat (first | refine bkN ?_ _ | refine bkd ?_ | refine bka ?_ _)); exact BK428.out) hb); have n1_ := As0.mk (bkb (g := gb429) (o := .cells #[.int .i64 a1_0, .int .i64 a1_1, .int .i64 a1_2, .slice A1_3 l1_3.length c1_3] 24 (0, 0)) (by (with_reducible repeat (first | refine bkN ?_ _ | refine bkd ?_ | refine bka ?_ _)); exact BK429.out) hb); have n2_ := As0.mk (bwp (by repeat (first | (with_reducible first | exact HB.out | apply bwa | apply pwN | apply bwd | refine bws ?_ GE428.out | refine bws ?_ GE429.out) | exact HB.out)) hb); have n3_ := As0.mk (hbox); have n4_ := As0.mk ((by rw [hg]; exact (bwz (by repeat (first | (with_reducible first | exact HB.out | apply bwa | apply pwN | apply bwd | refine bws ?_ GE428.out | refine bws ?_ GE429.out) | exact HB.out))) : w.heap.size ≤ gb430)); have n5_ := As0.mk ((by rw [hg]; exact (bwz (by repeat (first | (with_reducible first | exact HB.out | apply bwa | apply pwN | apply bwd | refine bws ?_ GE428.out | refine bws ?_ GE429.out) | exact HB.out))) : w.heap.size ≤ gb430)); have n6_ := As0.mk ((by rw [hg]; exact Nat.ne_of_lt (blk_lt (g := gb428) (o := .cells #[.int .i64 a0_0, .int .i64 a0_1, .int .i64 a0_2, .slice A0_3 l0_3.length c0_3] 24 (0, 0)) (by (with_reducible repeat (first | refine bkN ?_ _ | refine bkd ?_ | refine bka ?_ _)); exact BK428.out)) : gb428 ≠ gb430)); have n7_ := As0.mk ((by rw [hg]; exact Nat.ne_of_gt (blk_lt (g := gb428) (o := .cells #[.int .i64 a0_0, .int .i64 a0_1, .int .i64 a0_2, .slice A0_3 l0_3.length c0_3] 24 (0, 0)) (by (with_reducible repeat (first | refine bkN ?_ _ | refine bkd ?_ | refine bka ?_ _)); exact BK428.out)) : gb430 ≠ gb428)); have n8_ := As0.mk ((by rw [hg]; exact Nat.ne_of_lt (blk_lt (g := gb429) (o := .cells #[.int .i64 a1_0, .int .i64 a1_1, .int .i64 a1_2, .slice A1_3 l1_3.length c1_3] 24 (0, 0)) (by (with_reducible repeat (first | refine bkN ?_ _ | refine bkd ?_ | refine bka ?_ _)); exact BK429.out)) : gb429 ≠ gb430)); have n9_ := As0.mk ((by rw [hg]; exact Nat.ne_of_gt (blk_lt (g := gb429) (o := .cells #[.int .i64 a1_0, .int .i64 a1_1, .int .i64 a1_2, .slice A1_3 l1_3.length c1_3] 24 (0, 0)) (by (with_reducible repeat (first | refine bkN ?_ _ | refine bkd ?_ | refine bka ?_ _)); exact BK429.out)) : gb430 ≠ gb429)); clear BK428; clear BK429; clear HB; have BK428 := n0_; have BK429 := n1_; have HB := n2_; have BK430 := n3_; have GW430 := n4_; have GE430 := n5_; have NB428_430 := n6_; have NB430_428 := n7_; have NB429_430 := n8_; have NB430_429 := n9_; clear n0_ n1_ n2_ n3_ n4_ n5_ n6_ n7_ n8_ n9_; clear hb hbox hg; have hnb9 := NB428_429.out; have hnc9 := NB429_428.out; have hnb10 := NB428_430.out; have hnc10 := NB430_428.out; have hcz11_0 : w8.cell? ⟨gb428, 0, none⟩ = some (.int .i64 a0_0) := (bkc BK428.out 0).trans rfl; have hcz11_1 : w8.cell? ⟨gb428, 1, none⟩ = some (.int .i64 a0_1) := (bkc BK428.out 1).trans rfl; have hcz11_2 : w8.cell? ⟨gb428, 2, none⟩ = some (.int .i64 a0_2) := (bkc BK428.out 2).trans rfl; have hcz11_3 : w8.cell? ⟨gb428, 3, none⟩ = some (.slice A0_3 l0_3.length c0_3) := (bkc BK428.out 3).trans rfl; have hfz11_0 := bkz BK428.out 0; have hfz11_1 := bkz BK428.out 1; have hfz11_2 := bkz BK428.out 2; have hfz11_3 := bkz BK428.out 3) | ((with_reducible refine gate_callee (f := 24) rfl ?_); refine goesL_ (some 15) rfl rfl Tryz.func24 (by kernel_rfl) rfl #[.agg #[.int .i64 a0_0, .int .i64 a0_1, .int .i64 a0_2, .slice A0_3 l0_3.length c0_3]] rfl (by (try simp only [List.map_toArray, List.map_cons, List.map_nil]); first | done | rfl | (simp only [List.length_drop, List.length_take]; rfl)) ?_; (with_reducible refine (r00_CopyImage.calls k a0_0 a0_1 a0_2 _ _ l0_3 t431 t432 t433 t434 _ ?side1 ?side2 A5.out).mono ?_); (case side1 => repeat (first | exact (Kd.C_below HR0_3.out HB.out) | (with_reducible refine Kd.C_alloc ?_ _) | (with_reducible refine Kd.C_drewN ?_ _) | (with_reducible refine Kd.C_drew ?_))); (case side2 => exact HC0_3.out); rintro e w12 ⟨v435, rfl, ho0, hb⟩; refine ⟨_, rfl, ?_⟩; have n0_ := As0.mk (Kd.S_lower ho0 (bwz (by repeat (first | (with_reducible first | exact HB.out | apply bwa | apply pwN | apply bwd | refine bws ?_ GE428.out | refine bws ?_ GE429.out | refine bws ?_ GE430.out) | exact HB.out)))); have n1_ := As0.mk (bkb (g := gb428) (o := .cells #[.int .i64 a0_0, .int .i64 a0_1, .int .i64 a0_2, .slice A0_3 l0_3.length c0_3] 24 (0, 0)) (by (with_reducible repeat (first | refine bkN ?_ _ | refine bkd ?_ | refine bka ?_ _)); exact BK428.out) hb); have n2_ := As0.mk (bkb (g := gb429) (o := .cells #[.int .i64 a1_0, .int .i64 a1_1, .int .i64 a1_2, .slice A1_3 l1_3.length c1_3] 24 (0, 0)) (by (with_reducible repeat (first | refine bkN ?_ _ | refine bkd ?_ | refine bka ?_ _)); exact BK429.out) hb); have n3_ := As0.mk (bkb (g := gb430) (o := .cells #[.int .i64 0, .int .i64 0, .int .i64 0, .slice none 0 0] 24 (0, 0)) (by (with_reducible repeat (first | refine bkN ?_ _ | refine bkd ?_ | refine bka ?_ _)); exact BK430.out) hb); have n4_ := As0.mk (bwp (by repeat (first | (with_reducible first | exact HB.out | apply bwa | apply pwN | apply bwd | refine bws ?_ GE428.out | refine bws ?_ GE429.out | refine bws ?_ GE430.out) | exact HB.out)) hb); clear BK428; clear BK429; clear BK430; clear HB; have HO436 := n0_; have BK428 := n1_; have BK429 := n2_; have BK430 := n3_; have HB := n4_; clear n0_ n1_ n2_ n3_ n4_; (try clear hb); (try clear hb2); (try clear hk); (try clear hi); (try clear ho0)) | ((with_reducible refine gdt (N := 9) rfl ?_); refine bxe ?hg (N := 9) ?hd (cs := #[.int .i64 0, .int .i64 0, .int .i64 0, .slice none 0 0]) (t := 24) ?hr ?_; (case hd => rfl); (case hg => rfl); (case hr => first | (go_simp; done) | (go_simp; rfl)); intro gb437 hg w13 hbox hb; have n0_ := As0.mk (Kd.S_below (by (with_reducible repeat (first | apply Kd.S_alloc | apply Kd.S_drewN | apply Kd.S_drew)); exact HO436.out) hb); have n1_ := As0.mk (bkb (g := gb428) (o := .cells #[.int .i64 a0_0, .int .i64 a0_1, .int .i64 a0_2, .slice A0_3 l0_3.length c0_3] 24 (0, 0)) (by (with_reducible repeat (first | refine bkN ?_ _ | refine bkd ?_ | refine bka ?_ _)); exact BK428.out) hb); have n2_ := As0.mk (bkb (g := gb429) (o := .cells #[.int .i64 a1_0, .int .i64 a1_1, .int .i64 a1_2, .slice A1_3 l1_3.length c1_3] 24 (0, 0)) (by (with_reducible repeat (first | refine bkN ?_ _ | refine bkd ?_ | refine bka ?_ _)); exact BK429.out) hb); have n3_ := As0.mk (bkb (g := gb430) (o := .cells #[.int .i64 0, .int .i64 0, .int .i64 0, .slice none 0 0] 24 (0, 0)) (by (with_reducible repeat (first | refine bkN ?_ _ | refine bkd ?_ | refine bka ?_ _)); exact BK430.out) hb); have n4_ := As0.mk (bwp (by repeat (first | (with_reducible first | exact HB.out | apply bwa | apply pwN | apply bwd | refine bws ?_ GE428.out | refine bws ?_ GE429.out | refine bws ?_ GE430.out) | exact HB.out)) hb); have n5_ := As0.mk (hbox); have n6_ := As0.mk ((by rw [hg]; exact (bwz (by repeat (first | (with_reducible first | exact HB.out | apply bwa | apply pwN | apply bwd | refine bws ?_ GE428.out | refine bws ?_ GE429.out | refine bws ?_ GE430.out) | exact HB.out))) : w.heap.size ≤ gb437)); have n7_ := As0.mk ((by rw [hg]; exact (bwz (by repeat (first | (with_reducible first | exact HB.out | apply bwa | apply pwN | apply bwd | refine bws ?_ GE428.out | refine bws ?_ GE429.out | refine bws ?_ GE430.out) | exact HB.out))) : w.heap.size ≤ gb437)); have n8_ := As0.mk ((by rw [hg]; exact Nat.ne_of_lt (blk_lt (g := gb428) (o := .cells #[.int .i64 a0_0, .int .i64 a0_1, .int .i64 a0_2, .slice A0_3 l0_3.length c0_3] 24 (0, 0)) (by (with_reducible repeat (first | refine bkN ?_ _ | refine bkd ?_ | refine bka ?_ _)); exact BK428.out)) : gb428 ≠ gb437)); have n9_ := As0.mk ((by rw [hg]; exact Nat.ne_of_gt (blk_lt (g := gb428) (o := .cells #[.int .i64 a0_0, .int .i64 a0_1, .int .i64 a0_2, .slice A0_3 l0_3.length c0_3] 24 (0, 0)) (by (with_reducible repeat (first | refine bkN ?_ _ | refine bkd ?_ | refine bka ?_ _)); exact BK428.out)) : gb437 ≠ gb428)); have n10_ := As0.mk ((by rw [hg]; exact Nat.ne_of_lt (blk_lt (g := gb429) (o := .cells #[.int .i64 a1_0, .int .i64 a1_1, .int .i64 a1_2, .slice A1_3 l1_3.length c1_3] 24 (0, 0)) (by (with_reducible repeat (first | refine bkN ?_ _ | refine bkd ?_ | refine bka ?_ _)); exact BK429.out)) : gb429 ≠ gb437)); have n11_ := As0.mk ((by rw [hg]; exact Nat.ne_of_gt (blk_lt (g := gb429) (o := .cells #[.int .i64 a1_0, .int .i64 a1_1, .int .i64 a1_2, .slice A1_3 l1_3.length c1_3] 24 (0, 0)) (by (with_reducible repeat (first | refine bkN ?_ _ | refine bkd ?_ | refine bka ?_ _)); exact BK429.out)) : gb437 ≠ gb429)); have n12_ := As0.mk ((by rw [hg]; exact Nat.ne_of_lt (blk_lt (g := gb430) (o := .cells #[.int .i64 0, .int .i64 0, .int .i64 0, .slice none 0 0] 24 (0, 0)) (by (with_reducible repeat (first | refine bkN ?_ _ | refine bkd ?_ | refine bka ?_ _)); exact BK430.out)) : gb430 ≠ gb437)); have n13_ := As0.mk ((by rw [hg]; exact Nat.ne_of_gt (blk_lt (g := gb430) (o := .cells #[.int .i64 0, .int .i64 0, .int .i64 0, .slice none 0 0] 24 (0, 0)) (by (with_reducible repeat (first | refine bkN ?_ _ | refine bkd ?_ | refine bka ?_ _)); exact BK430.out)) : gb437 ≠ gb430)); clear HO436; clear BK428; clear BK429; clear BK430; clear HB; have HO436 := n0_; have BK428 := n1_; have BK429 := n2_; have BK430 := n3_; have HB := n4_; have BK437 := n5_; have GW437 := n6_; have GE437 := n7_; have NB428_437 := n8_; have NB437_428 := n9_; have NB429_437 := n10_; have NB437_429 := n11_; have NB430_437 := n12_; have NB437_430 := n13_; clear n0_ n1_ n2_ n3_ n4_ n5_ n6_ n7_ n8_ n9_ n10_ n11_ n12_ n13_; clear hb hbox hg; have hnb14 := NB437_428.out; have hnc14 := NB428_437.out; have hnb15 := NB437_429.out; have hnc15 := NB429_437.out; have hnb16 := NB437_430.out; have hnc16 := NB430_437.out; have hcz17_0 : w13.cell? ⟨gb437, 0, none⟩ = some (.int .i64 0) := (bkc BK437.out 0).trans rfl; have hcz17_1 : w13.cell? ⟨gb437, 1, none⟩ = some (.int .i64 0) := (bkc BK437.out 1).trans rfl; have hcz17_2 : w13.cell? ⟨gb437, 2, none⟩ = some (.int .i64 0) := (bkc BK437.out 2).trans rfl; have hcz17_3 : w13.cell? ⟨gb437, 3, none⟩ = some (.slice none 0 0) := (bkc BK437.out 3).trans rfl; have hfz17_0 := bkz BK437.out 0; have hfz17_1 := bkz BK437.out 1; have hfz17_2 := bkz BK437.out 2; have hfz17_3 := bkz BK437.out 3; obtain ⟨Ao18, co18, eo18⟩ := Kd.S_slice HO436.out; subst eo18))
 go_loopg [10] k (fun kq v10 w' => ∃ (x10_1 : Int) (x438003_1 : List (List Int)) (u438003 : Value), v10 = .int .i64 x10_1 ∧ As0 (r15_drawn.l0 kq a2 a3 x10_1 a1_0 a1_1 a1_2 l1_3 t431 t432 t433 x438003_1 = some (r1, r2, r3, r4)) ∧ As0 (kq ≤ k) ∧ As0 (Kd.S (Kd.slice 3 (Kd.int .i64)) 39 w' w.heap.size (fun _ => True) u438003 x438003_1) ∧ As0 (w'.heap[gb428]? = some (.cells #[.int .i64 a0_0, .int .i64 a0_1, .int .i64 a0_2, (.slice A0_3 l0_3.length c0_3)] 24 (0, 0))) ∧ As0 (w'.heap[gb429]? = some (.cells #[.int .i64 a1_0, .int .i64 a1_1, .int .i64 a1_2, (.slice A1_3 l1_3.length c1_3)] 24 (0, 0))) ∧ As0 (w'.heap[gb430]? = some (.cells #[.int .i64 0, .int .i64 0, .int .i64 0, (.slice none 0 0)] 24 (0, 0))) ∧ As0 (w'.heap[gb437]? = some (.cells #[.int .i64 t431, .int .i64 t432, .int .i64 t433, u438003] 24 (0, 0))) ∧ As0 (Below w.heap.size w w'))
 case atStart => exact ⟨(0), (t434), (.slice Ao18 t434.length co18), (by first | rfl | (simp; done) | (simp [*]; done)), H', ⟨Nat.le_refl _⟩, ⟨by (with_reducible repeat (first | apply Kd.S_alloc | apply Kd.S_drewN | apply Kd.S_drew)); exact Kd.S_mono (Kd.S_far (p := ⟨gb437, 3, none⟩) (Kd.S_far (p := ⟨gb437, 2, none⟩) (Kd.S_far (p := ⟨gb437, 1, none⟩) (Kd.S_far (p := ⟨gb437, 0, none⟩) (Kd.S_types HO436.out BK437.out (by decide)) (fun _ hk => hk.2) (.int .i64 t431)) (fun _ hk => hk.2) (.int .i64 t432)) (fun _ hk => hk.2) (.int .i64 t433)) (fun _ hk => hk.2) (.slice Ao18 t434.length co18)) (fun _ hk => trivial)⟩, ⟨by (with_reducible repeat (first | refine bkN ?_ _ | refine bkd ?_ | refine bka ?_ _)); refine bkf ?_ NB428_437.out _; (with_reducible repeat (first | refine bkN ?_ _ | refine bkd ?_ | refine bka ?_ _)); refine bkf ?_ NB428_437.out _; (with_reducible repeat (first | refine bkN ?_ _ | refine bkd ?_ | refine bka ?_ _)); refine bkf ?_ NB428_437.out _; (with_reducible repeat (first | refine bkN ?_ _ | refine bkd ?_ | refine bka ?_ _)); refine bkf ?_ NB428_437.out _; (with_reducible repeat (first | refine bkN ?_ _ | refine bkd ?_ | refine bka ?_ _)); exact BK428.out⟩, ⟨by (with_reducible repeat (first | refine bkN ?_ _ | refine bkd ?_ | refine bka ?_ _)); refine bkf ?_ NB429_437.out _; (with_reducible repeat (first | refine bkN ?_ _ | refine bkd ?_ | refine bka ?_ _)); refine bkf ?_ NB429_437.out _; (with_reducible repeat (first | refine bkN ?_ _ | refine bkd ?_ | refine bka ?_ _)); refine bkf ?_ NB429_437.out _; (with_reducible repeat (first | refine bkN ?_ _ | refine bkd ?_ | refine bka ?_ _)); refine bkf ?_ NB429_437.out _; (with_reducible repeat (first | refine bkN ?_ _ | refine bkd ?_ | refine bka ?_ _)); exact BK429.out⟩, ⟨by (with_reducible repeat (first | refine bkN ?_ _ | refine bkd ?_ | refine bka ?_ _)); refine bkf ?_ NB430_437.out _; (with_reducible repeat (first | refine bkN ?_ _ | refine bkd ?_ | refine bka ?_ _)); refine bkf ?_ NB430_437.out _; (with_reducible repeat (first | refine bkN ?_ _ | refine bkd ?_ | refine bka ?_ _)); refine bkf ?_ NB430_437.out _; (with_reducible repeat (first | refine bkN ?_ _ | refine bkd ?_ | refine bka ?_ _)); refine bkf ?_ NB430_437.out _; (with_reducible repeat (first | refine bkN ?_ _ | refine bkd ?_ | refine bka ?_ _)); exact BK430.out⟩, ⟨by (with_reducible repeat (first | refine bkN ?_ _ | refine bkd ?_ | refine bka ?_ _)); refine blk_put (cs := #[.int .i64 t431, .int .i64 t432, .int .i64 t433, .slice none 0 0]) ?_ 3 _ rfl; (with_reducible repeat (first | refine bkN ?_ _ | refine bkd ?_ | refine bka ?_ _)); refine blk_put (cs := #[.int .i64 t431, .int .i64 t432, .int .i64 0, .slice none 0 0]) ?_ 2 _ rfl; (with_reducible repeat (first | refine bkN ?_ _ | refine bkd ?_ | refine bka ?_ _)); refine blk_put (cs := #[.int .i64 t431, .int .i64 0, .int .i64 0, .slice none 0 0]) ?_ 1 _ rfl; (with_reducible repeat (first | refine bkN ?_ _ | refine bkd ?_ | refine bka ?_ _)); refine blk_put (cs := #[.int .i64 0, .int .i64 0, .int .i64 0, .slice none 0 0]) ?_ 0 _ rfl; (with_reducible repeat (first | refine bkN ?_ _ | refine bkd ?_ | refine bka ?_ _)); exact BK437.out⟩, ⟨by repeat (first | (with_reducible first | exact HB.out | apply bwa | apply pwN | apply bwd | refine bws ?_ GE428.out | refine bws ?_ GE429.out | refine bws ?_ GE430.out | refine bws ?_ GE437.out) | exact HB.out)⟩⟩
 case round =>
  clear H'
  try clear c1
  try clear c2
  try clear p2
  try clear c6
  try clear c9
  try clear c10
  try clear c14
  try clear c15
  try clear c16
  try clear hcz11_0
  try clear hcz11_1
  try clear hcz11_2
  try clear hcz11_3
  try clear hcz17_0
  try clear hcz17_1
  try clear hcz17_2
  try clear hcz17_3
  try clear hfz11_0
  try clear hfz11_1
  try clear hfz11_2
  try clear hfz11_3
  try clear hfz17_0
  try clear hfz17_1
  try clear hfz17_2
  try clear hfz17_3
  obtain ⟨x10_1, x438003_1, u438003, rfl, HA, HK1, HO_438003, BK428, BK429, BK430, BK437, HB⟩ := hrel
  cases gk with
  | zero => exact absurd HA.out (by simp [r15_drawn.l0])
  | succ k1 =>
   have H := HA.out
   clear HA
   simp only [r15_drawn.l0] at H
   by_cases c19 : x10_1 < (l1_3.length : Int)
   ·rw [if_pos c19] at H
    have c19b0 : decide (x10_1 < (l1_3.length : Int)) = true := decide_eq_true c19
    clear c19
    have H' := As0.mk H
    clear H
    have hnb20 := NB429_428.out
    have hnc20 := NB428_429.out
    have hnb21 := NB429_430.out
    have hnc21 := NB430_429.out
    have hnb22 := NB429_437.out
    have hnc22 := NB437_429.out
    have hcz23_0 : wr.cell? ⟨gb429, 0, none⟩ = some (.int .i64 a1_0) := (bkc BK429.out 0).trans rfl
    have hcz23_1 : wr.cell? ⟨gb429, 1, none⟩ = some (.int .i64 a1_1) := (bkc BK429.out 1).trans rfl
    have hcz23_2 : wr.cell? ⟨gb429, 2, none⟩ = some (.int .i64 a1_2) := (bkc BK429.out 2).trans rfl
    have hcz23_3 : wr.cell? ⟨gb429, 3, none⟩ = some (.slice A1_3 l1_3.length c1_3) := (bkc BK429.out 3).trans rfl
    have hfz23_0 := bkz BK429.out 0
    have hfz23_1 := bkz BK429.out 1
    have hfz23_2 := bkz BK429.out 2
    have hfz23_3 := bkz BK429.out 3
    go_wp2
    go_loopg [11] k1 (fun kq v11 w' => ∃ (x11_2 : Int) (x438003_2 : List (List Int)) (u438003 : Value), v11 = .int .i64 x11_2 ∧ As0 (r15_drawn.l1 kq a2 a3 x10_1 x11_2 a1_0 a1_1 a1_2 l1_3 t431 t432 t433 x438003_2 = some (r1, r2, r3, r4)) ∧ As0 (kq ≤ k1) ∧ As0 (Kd.S (Kd.slice 3 (Kd.int .i64)) 39 w' w.heap.size (fun _ => True) u438003 x438003_2) ∧ As0 (w'.heap[gb428]? = some (.cells #[.int .i64 a0_0, .int .i64 a0_1, .int .i64 a0_2, (.slice A0_3 l0_3.length c0_3)] 24 (0, 0))) ∧ As0 (w'.heap[gb429]? = some (.cells #[.int .i64 a1_0, .int .i64 a1_1, .int .i64 a1_2, (.slice A1_3 l1_3.length c1_3)] 24 (0, 0))) ∧ As0 (w'.heap[gb430]? = some (.cells #[.int .i64 0, .int .i64 0, .int .i64 0, (.slice none 0 0)] 24 (0, 0))) ∧ As0 (w'.heap[gb437]? = some (.cells #[.int .i64 t431, .int .i64 t432, .int .i64 t433, u438003] 24 (0, 0))) ∧ As0 (Below w.heap.size w w'))
    case atStart => exact ⟨(0), (x438003_1), (u438003), (by first | rfl | (simp; done) | (simp [*]; done)), H', ⟨Nat.le_refl _⟩, ⟨by (with_reducible repeat (first | apply Kd.S_alloc | apply Kd.S_drewN | apply Kd.S_drew)); exact HO_438003.out⟩, ⟨by (with_reducible repeat (first | refine bkN ?_ _ | refine bkd ?_ | refine bka ?_ _)); exact BK428.out⟩, ⟨by (with_reducible repeat (first | refine bkN ?_ _ | refine bkd ?_ | refine bka ?_ _)); exact BK429.out⟩, ⟨by (with_reducible repeat (first | refine bkN ?_ _ | refine bkd ?_ | refine bka ?_ _)); exact BK430.out⟩, ⟨by (with_reducible repeat (first | refine bkN ?_ _ | refine bkd ?_ | refine bka ?_ _)); exact BK437.out⟩, ⟨by repeat (first | (with_reducible first | exact HB.out | apply bwa | apply pwN | apply bwd | refine bws ?_ GE428.out | refine bws ?_ GE429.out | refine bws ?_ GE430.out | refine bws ?_ GE437.out) | exact HB.out)⟩⟩
    case round =>
     clear H'
     try clear c1
     try clear c2
     try clear p2
     try clear c6
     try clear c9
     try clear c10
     try clear c14
     try clear c15
     try clear c16
     try clear c19
     try clear c19b0
     try clear c20
     try clear c21
     try clear c22
     try clear hcz11_0
     try clear hcz11_1
     try clear hcz11_2
     try clear hcz11_3
     try clear hcz17_0
     try clear hcz17_1
     try clear hcz17_2
     try clear hcz17_3
     try clear hcz23_0
     try clear hcz23_1
     try clear hcz23_2
     try clear hcz23_3
     try clear hfz11_0
     try clear hfz11_1
     try clear hfz11_2
     try clear hfz11_3
     try clear hfz17_0
     try clear hfz17_1
     try clear hfz17_2
     try clear hfz17_3
     try clear hfz23_0
     try clear hfz23_1
     try clear hfz23_2
     try clear hfz23_3
     try clear p2
     obtain ⟨x11_2, x438003_2, u438003, rfl, HA, HK2, HO_438003, BK428, BK429, BK430, BK437, HB⟩ := hrel
     cases gk with
     | zero => exact absurd HA.out (by simp [r15_drawn.l1])
     | succ k2 =>
      have H := HA.out
      clear HA
      simp only [r15_drawn.l1] at H
      by_cases c24 : x11_2 < (wrap64 (a1_0 * a1_1))
      ·rw [if_pos c24] at H
       have c24b0 : decide (x11_2 < (wrap64 (a1_0 * a1_1))) = true := decide_eq_true c24
       clear c24
       by_cases c25 : a1_0 = 0
       ·rw [if_pos c25] at H
        exact absurd H (by simp)
       ·rw [if_neg c25] at H
        have c25b0 : (a1_0 == 0) = false := beq_eq_false_iff_ne.mpr c25
        have c25b1 : (a1_0 != 0) = true := bne_iff_ne.mpr c25
        by_cases c26 : (wrap64 (a2 + (Int.tmod x11_2 a1_0))) ≥ 0
        ·rw [if_pos c26] at H
         have c26b0 : decide (0 ≤ (wrap64 (a2 + (Int.tmod x11_2 a1_0)))) = true := decide_eq_true c26
         clear c26
         by_cases c27 : (wrap64 (a2 + (Int.tmod x11_2 a1_0))) < t431
         ·rw [if_pos c27] at H
          have c27b0 : decide ((wrap64 (a2 + (Int.tmod x11_2 a1_0))) < t431) = true := decide_eq_true c27
          clear c27
          by_cases c28 : (wrap64 (a3 + (wrap64 (Int.tdiv x11_2 a1_0)))) ≥ 0
          ·rw [if_pos c28] at H
           have c28b0 : decide (0 ≤ (wrap64 (a3 + (wrap64 (Int.tdiv x11_2 a1_0))))) = true := decide_eq_true c28
           clear c28
           by_cases c29 : (wrap64 (a3 + (wrap64 (Int.tdiv x11_2 a1_0)))) < t432
           ·rw [if_pos c29] at H
            have c29b0 : decide ((wrap64 (a3 + (wrap64 (Int.tdiv x11_2 a1_0)))) < t432) = true := decide_eq_true c29
            clear c29
            by_cases c30 : 0 ≤ x10_1
            ·rw [if_pos c30] at H
             have c30b0 : decide (0 ≤ x10_1) = true := decide_eq_true c30
             clear c30
             by_cases c31 : x10_1 < (x438003_2.length : Int)
             ·rw [if_pos c31] at H
              have c31b0 : decide (x10_1 < (x438003_2.length : Int)) = true := decide_eq_true c31
              clear c31
              by_cases c32 : x10_1 < (l1_3.length : Int)
              ·rw [if_pos c32] at H
               have c32b0 : decide (x10_1 < (l1_3.length : Int)) = true := decide_eq_true c32
               clear c32
               by_cases c33 : 0 ≤ x11_2
               ·rw [if_pos c33] at H
                have c33b0 : decide (0 ≤ x11_2) = true := decide_eq_true c33
                clear c33
                by_cases c34 : x11_2 < ((rd_L1 l1_3 x10_1).length : Int)
                ·rw [if_pos c34] at H
                 have c34b0 : decide (x11_2 < ((rd_L1 l1_3 x10_1).length : Int)) = true := decide_eq_true c34
                 clear c34
                 obtain ⟨ji35, hji35⟩ : ∃ j_ : Int, (wrap64 ((wrap64 ((wrap64 (a3 + (wrap64 (Int.tdiv x11_2 a1_0)))) * t431)) + (wrap64 (a2 + (Int.tmod x11_2 a1_0))))) = j_ := ⟨_, rfl⟩
                 replace H : (if 0 ≤ (ji35) then (if (ji35) < ((rd_L1 x438003_2 x10_1).length : Int) then (r15_drawn.l1 k2 a2 a3 x10_1 (wrap64 (x11_2 + 1)) a1_0 a1_1 a1_2 l1_3 t431 t432 t433 (x438003_2.set (x10_1 : Int).toNat ((rd_L1 x438003_2 x10_1).set ((ji35) : Int).toNat (rd (rd_L1 l1_3 x10_1) x11_2)))) else (none)) else (none)) = some (r1, r2, r3, r4) := by first | (rw [hji35] at H; exact H) | (simp only [hji35] at H ⊢; exact H)
                 have hji35w : (IntKind.i64.wrap ((wrap64 ((wrap64 (a3 + (wrap64 (Int.tdiv x11_2 a1_0)))) * t431)) + (wrap64 (a2 + (Int.tmod x11_2 a1_0))))) = ji35 := (i64_w _).trans hji35
                 by_cases c36 : 0 ≤ (ji35)
                 ·rw [if_pos c36] at H
                  have c36b0 : decide (0 ≤ (ji35)) = true := decide_eq_true c36
                  clear c36
                  by_cases c37 : (ji35) < ((rd_L1 x438003_2 x10_1).length : Int)
                  ·rw [if_pos c37] at H
                   have c37b0 : decide ((ji35) < ((rd_L1 x438003_2 x10_1).length : Int)) = true := decide_eq_true c37
                   clear c37
                   obtain ⟨y441, hy441⟩ : ∃ y_ : List Int, y_ = ((rd_L1 x438003_2 x10_1).set ((ji35) : Int).toNat (rd (rd_L1 l1_3 x10_1) x11_2)) := ⟨_, rfl⟩
                   replace H : (r15_drawn.l1 k2 a2 a3 x10_1 (wrap64 (x11_2 + 1)) a1_0 a1_1 a1_2 l1_3 t431 t432 t433 (x438003_2.set (x10_1 : Int).toNat y441)) = some (r1, r2, r3, r4) := by first | (rw [hy441]; with_reducible exact H) | (have H2_ := (Option.bind_some _ _).symm.trans H; rw [hy441]; with_reducible exact H2_) | (have H2_ := (Option.bind_some _ _).symm.trans H; with_reducible exact H2_) | with_reducible exact H | (rw [hy441]; exact H) | exact H
                   have Ny441 := As0.mk hy441
                   clear hy441
                   obtain ⟨y443, hy443⟩ : ∃ y_ : List (List Int), y_ = (x438003_2.set (x10_1 : Int).toNat y441) := ⟨_, rfl⟩
                   replace H : (r15_drawn.l1 k2 a2 a3 x10_1 (wrap64 (x11_2 + 1)) a1_0 a1_1 a1_2 l1_3 t431 t432 t433 y443) = some (r1, r2, r3, r4) := by first | (rw [hy443]; with_reducible exact H) | (have H2_ := (Option.bind_some _ _).symm.trans H; rw [hy443]; with_reducible exact H2_) | (have H2_ := (Option.bind_some _ _).symm.trans H; with_reducible exact H2_) | with_reducible exact H | (rw [hy443]; exact H) | exact H
                   have Ny443 := As0.mk hy443
                   clear hy443
                   have H' := As0.mk H
                   clear H
                   have hnb39 := NB429_428.out
                   have hnc39 := NB428_429.out
                   have hnb40 := NB429_430.out
                   have hnc40 := NB430_429.out
                   have hnb41 := NB429_437.out
                   have hnc41 := NB437_429.out
                   have hcz42_0 : wr.cell? ⟨gb429, 0, none⟩ = some (.int .i64 a1_0) := (bkc BK429.out 0).trans rfl
                   have hcz42_1 : wr.cell? ⟨gb429, 1, none⟩ = some (.int .i64 a1_1) := (bkc BK429.out 1).trans rfl
                   have hcz42_2 : wr.cell? ⟨gb429, 2, none⟩ = some (.int .i64 a1_2) := (bkc BK429.out 2).trans rfl
                   have hcz42_3 : wr.cell? ⟨gb429, 3, none⟩ = some (.slice A1_3 l1_3.length c1_3) := (bkc BK429.out 3).trans rfl
                   have hfz42_0 := bkz BK429.out 0
                   have hfz42_1 := bkz BK429.out 1
                   have hfz42_2 := bkz BK429.out 2
                   have hfz42_3 := bkz BK429.out 3
                   try go_wp2
                   have n0_ := As0.mk (Kd.S_drew HO_438003.out)
                   have n1_ := As0.mk (bkd BK428.out)
                   have n2_ := As0.mk (bkd BK429.out)
                   have n3_ := As0.mk (bkd BK430.out)
                   have n4_ := As0.mk (bkd BK437.out)
                   have n5_ := As0.mk (bwd HB.out)
                   clear HO_438003
                   clear BK428
                   clear BK429
                   clear BK430
                   clear BK437
                   clear HB
                   have HO_438003 := n0_
                   have BK428 := n1_
                   have BK429 := n2_
                   have BK430 := n3_
                   have BK437 := n4_
                   have HB := n5_
                   clear n0_ n1_ n2_ n3_ n4_ n5_
                   refine start_ (n := 14) (S := fun w' => w'.cell? ⟨gb429, 0, none⟩ = some (.int .i64 a1_0) ∧ w'.cell? ⟨gb429, 1, none⟩ = some (.int .i64 a1_1) ∧ w'.cell? ⟨gb429, 2, none⟩ = some (.int .i64 a1_2) ∧ w'.cell? ⟨gb429, 3, none⟩ = some (.slice A1_3 l1_3.length c1_3)) (ds := []) #[false, false, false, false, false, false, false, false, false, false, false, false, false, false] (by kernel_rfl) rfl rfl ⟨(bkc BK429.out 0).trans rfl, (bkc BK429.out 1).trans rfl, (bkc BK429.out 2).trans rfl, (bkc BK429.out 3).trans rfl⟩ (fun hHeld => ?_); refine with_tabW r15_drawn.tab8 r15_drawn.bits8 (fun HT_ HW_ => ?_)
                   generalize wr.drew = w43 at HO_438003 BK428 BK429 BK430 BK437 HB hHeld ⊢
                   refine pure_ (i := 0) (N := some 32) (v := ?_) (a' := ?_) #[true, false, false, false, false, false, false, false, false, false, false, false, false, false] rfl rfl (any_of HT_.out (by kernel_rfl)) (fun _ _ _ h => h) (Or.inl ⟨by rfl, ?_⟩) ?_ ?_
                   rotate_left
                   ·intro w'
                    go_simp
                    with_reducible rfl
                   rotate_left
                   ·simp only [Act.put, List.setIfInBounds_toArray, List.set_cons_zero, List.set_cons_succ, i64_w, i32_w]
                    rfl
                   refine pure_ (i := 1) (N := some 33) (v := ?_) (a' := ?_) #[true, true, false, false, false, false, false, false, false, false, false, false, false, false] rfl rfl (any_of HT_.out (by kernel_rfl)) (fun _ _ _ h => h) (Or.inl ⟨by rfl, ?_⟩) ?_ ?_
                   rotate_left
                   ·intro w'
                    go_simp
                    with_reducible rfl
                   rotate_left
                   ·simp only [Act.put, List.setIfInBounds_toArray, List.set_cons_zero, List.set_cons_succ, i64_w, i32_w]
                    rfl
                   refine pure_ (i := 2) (N := some 34) (v := ?_) (a' := ?_) #[true, true, true, false, false, false, false, false, false, false, false, false, false, false] rfl rfl (any_of HT_.out (by kernel_rfl)) (fun _ _ _ h => h) (Or.inl ⟨by rfl, ?_⟩) ?_ ?_
                   rotate_left
                   ·intro w'
                    go_simp
                    with_reducible rfl
                   rotate_left
                   ·simp only [Act.put, List.setIfInBounds_toArray, List.set_cons_zero, List.set_cons_succ, i64_w, i32_w]
                    rfl
                   refine pure_ (i := 6) (N := some 38) (v := ?_) (a' := ?_) #[true, true, true, false, false, false, true, false, false, false, false, false, false, false] rfl rfl (any_of HT_.out (by kernel_rfl)) (fun _ _ _ h => h) (Or.inl ⟨by rfl, ?_⟩) ?_ ?_
                   rotate_left
                   ·intro w'
                    go_simp
                    with_reducible rfl
                   rotate_left
                   ·simp only [Act.put, List.setIfInBounds_toArray, List.set_cons_zero, List.set_cons_succ, i64_w, i32_w]
                    rfl
                   refine pure_ (i := 7) (N := some 39) (v := ?_) (a' := ?_) #[true, true, true, false, false, false, true, true, false, false, false, false, false, false] rfl rfl (any_of HT_.out (by kernel_rfl)) (fun _ _ _ h => h) (Or.inl ⟨by rfl, ?_⟩) ?_ ?_
                   rotate_left
                   ·intro w'
                    go_simp
                    with_reducible rfl
                   rotate_left
                   ·simp only [Act.put, List.setIfInBounds_toArray, List.set_cons_zero, List.set_cons_succ, i64_w, i32_w]
                    rfl
                   refine pure_ (i := 8) (N := some 40) (v := ?_) (a' := ?_) #[true, true, true, false, false, false, true, true, true, false, false, false, false, false] rfl rfl (any_of HT_.out (by kernel_rfl)) (fun _ _ _ h => h) (Or.inl ⟨by rfl, ?_⟩) ?_ ?_
                   rotate_left
                   ·intro w'
                    go_simp
                    with_reducible rfl
                   rotate_left
                   ·simp only [Act.put, List.setIfInBounds_toArray, List.set_cons_zero, List.set_cons_succ, i64_w, i32_w]
                    rfl
                   refine take_ (i := 3) (N := some 35) (v := ?_) (a' := ?_) #[true, true, true, true, false, false, true, true, true, false, false, false, false, false] rfl rfl (take_ofW HT_.out HW_.out (by kernel_rfl)) (fun _ _ _ h => h) (Or.inl ⟨by rfl, ?_⟩) hHeld ?_ ?_
                   rotate_left
                   ·rintro w' ⟨s0, s1, s2, s3⟩
                    go_simp
                    with_reducible rfl
                   rotate_left
                   ·simp only [Act.put, List.setIfInBounds_toArray, List.set_cons_zero, List.set_cons_succ, i64_w, i32_w]
                    rfl
                   refine pure_ (i := 4) (N := some 36) (v := ?_) (a' := ?_) #[true, true, true, true, true, false, true, true, true, false, false, false, false, false] rfl rfl (any_of HT_.out (by kernel_rfl)) (fun _ _ _ h => h) (Or.inl ⟨by rfl, ?_⟩) ?_ ?_
                   rotate_left
                   ·intro w'
                    go_simp
                    with_reducible rfl
                   rotate_left
                   ·simp only [Act.put, List.setIfInBounds_toArray, List.set_cons_zero, List.set_cons_succ, i64_w, i32_w]
                    rfl
                   refine pure_ (i := 5) (N := some 37) (v := ?_) (a' := ?_) #[true, true, true, true, true, true, true, true, true, false, false, false, false, false] rfl rfl (any_of HT_.out (by kernel_rfl)) (fun _ _ _ h => h) (Or.inl ⟨by rfl, ?_⟩) ?_ ?_
                   rotate_left
                   ·intro w'
                    go_simp
                    with_reducible rfl
                   rotate_left
                   ·simp only [Act.put, List.setIfInBounds_toArray, List.set_cons_zero, List.set_cons_succ, i64_w, i32_w]
                    rfl
                   refine pure_ (i := 12) (N := some 12) (v := ?_) (a' := ?_) #[true, true, true, true, true, true, true, true, true, false, false, false, true, false] rfl rfl (any_of HT_.out (by kernel_rfl)) (fun _ _ _ h => h) (Or.inl ⟨by rfl, ?_⟩) ?_ ?_
                   rotate_left
                   ·intro w'
                    go_simp
                    with_reducible rfl
                   rotate_left
                   ·simp only [Act.put, List.setIfInBounds_toArray, List.set_cons_zero, List.set_cons_succ, i64_w, i32_w]
                    rfl
                   refine take_ (i := 9) (N := some 41) (v := ?_) (a' := ?_) #[true, true, true, true, true, true, true, true, true, true, false, false, true, false] rfl rfl (take_ofW HT_.out HW_.out (by kernel_rfl)) (fun _ _ _ h => h) (Or.inl ⟨by rfl, ?_⟩) hHeld ?_ ?_
                   rotate_left
                   ·rintro w' ⟨s0, s1, s2, s3⟩
                    go_simp
                    with_reducible rfl
                   rotate_left
                   ·simp only [Act.put, List.setIfInBounds_toArray, List.set_cons_zero, List.set_cons_succ, i64_w, i32_w]
                    rfl
                   refine pure_ (i := 10) (N := some 42) (v := ?_) (a' := ?_) #[true, true, true, true, true, true, true, true, true, true, true, false, true, false] rfl rfl (any_of HT_.out (by kernel_rfl)) (fun _ _ _ h => h) (Or.inl ⟨by rfl, ?_⟩) ?_ ?_
                   rotate_left
                   ·intro w'
                    go_simp
                    with_reducible rfl
                   rotate_left
                   ·simp only [Act.put, List.setIfInBounds_toArray, List.set_cons_zero, List.set_cons_succ, i64_w, i32_w]
                    rfl
                   refine pure_ (i := 11) (N := some 43) (v := ?_) (a' := ?_) #[true, true, true, true, true, true, true, true, true, true, true, true, true, false] rfl rfl (any_of HT_.out (by kernel_rfl)) (fun _ _ _ h => h) (Or.inl ⟨by rfl, ?_⟩) ?_ ?_
                   rotate_left
                   ·intro w'
                    go_simp
                    with_reducible rfl
                   rotate_left
                   ·simp only [Act.put, List.setIfInBounds_toArray, List.set_cons_zero, List.set_cons_succ, i64_w, i32_w]
                    rfl
                   refine pure_ (i := 13) (N := some 13) (v := ?_) (a' := ?_) #[true, true, true, true, true, true, true, true, true, true, true, true, true, true] rfl rfl (any_of HT_.out (by kernel_rfl)) (fun _ _ _ h => h) (Or.inl ⟨by rfl, ?_⟩) ?_ ?_
                   rotate_left
                   ·intro w'
                    go_simp
                    with_reducible rfl
                   rotate_left
                   ·simp only [Act.put, List.setIfInBounds_toArray, List.set_cons_zero, List.set_cons_succ, i64_w, i32_w]
                    rfl
                   refine done_ (done_of HT_.out (by kernel_rfl)) ?_
                   have hnb44 := NB437_428.out
                   have hnc44 := NB428_437.out
                   have hnb45 := NB437_430.out
                   have hnc45 := NB430_437.out
                   have hcz46_0 : w43.cell? ⟨gb437, 0, none⟩ = some (.int .i64 t431) := (bkc BK437.out 0).trans rfl
                   have hcz46_1 : w43.cell? ⟨gb437, 1, none⟩ = some (.int .i64 t432) := (bkc BK437.out 1).trans rfl
                   have hcz46_2 : w43.cell? ⟨gb437, 2, none⟩ = some (.int .i64 t433) := (bkc BK437.out 2).trans rfl
                   have hcz46_3 : w43.cell? ⟨gb437, 3, none⟩ = some (u438003) := (bkc BK437.out 3).trans rfl
                   have hfz46_0 := bkz BK437.out 0
                   have hfz46_1 := bkz BK437.out 1
                   have hfz46_2 := bkz BK437.out 2
                   have hfz46_3 := bkz BK437.out 3
                   try go_wp2
                   have n0_ := As0.mk (Kd.S_drew HO_438003.out)
                   have n1_ := As0.mk (bkd BK428.out)
                   have n2_ := As0.mk (bkd BK429.out)
                   have n3_ := As0.mk (bkd BK430.out)
                   have n4_ := As0.mk (bkd BK437.out)
                   have n5_ := As0.mk (bwd HB.out)
                   clear HO_438003
                   clear BK428
                   clear BK429
                   clear BK430
                   clear BK437
                   clear HB
                   have HO_438003 := n0_
                   have BK428 := n1_
                   have BK429 := n2_
                   have BK430 := n3_
                   have BK437 := n4_
                   have HB := n5_
                   clear n0_ n1_ n2_ n3_ n4_ n5_
                   obtain ⟨Ao48, co48, eo48⟩ := Kd.S_slice HO_438003.out
                   (first | subst eo48 | (injection eo48 with f1_ f2_ f3_; have f4_ := f1_.symm; have f5_ := f3_.symm; clear f1_ f2_ f3_; subst f4_; subst f5_))
                   have p438 : 0 ≤ (x10_1 : Int) := of_decide_eq_true (by first | (with_reducible assumption) | assumption)
                   have q438 : x10_1 < (x438003_2.length : Int) := of_decide_eq_true (by first | (with_reducible assumption) | assumption)
                   obtain ⟨ad438, A438_0, c438_0, e438, hx438_0, hl438_0, hi438_0⟩ := at_L1 (Kd.S_reads' HO_438003.out).2.2 x10_1 p438 q438
                   cases e438
                   obtain ⟨ce438, hce438, hMe438, hcc438⟩ := Kd.S_get HO_438003.out [] x10_1 p438 (by first | exact q438 | exact of_decide_eq_true (by first | (with_reducible assumption) | assumption) | (have e_ := (Kd.S_reads' HO_438003.out).1; omega))
                   obtain ⟨ve438_0, rfl, ge438_0⟩ := hMe438
                   have hv438_0 := hcc438 0 _ rfl
                   rw [Nat.add_zero, show ((Kd.slice 3 (Kd.int .i64))).sz = 1 from rfl, Nat.mul_one] at hv438_0
                   replace hv438_0 := Option.some.inj (hv438_0.symm.trans hx438_0)
                   rw [hv438_0] at ge438_0
                   have HL438_0 := As0.mk (show Kd.R (Kd.int .i64) 3 _ _ _ _ (rd_L1 x438003_2 x10_1) from ge438_0)
                   clear hv438_0 ge438_0
                   have HX438_0 := As0.mk hx438_0
                   clear hcc438 hce438
                   have HR438_0 := As0.mk hi438_0
                   have HC438_0 := As0.mk hl438_0
                   clear hi438_0 hl438_0
                   replace p438 := eq_true p438
                   replace q438 := eq_true q438
                   have p439 : 0 ≤ (x10_1 : Int) := of_decide_eq_true (by first | (with_reducible assumption) | assumption)
                   have q439 : x10_1 < (l1_3.length : Int) := of_decide_eq_true (by first | (with_reducible assumption) | assumption)
                   obtain ⟨ad439, A439_0, c439_0, e439, hx439_0, hl439_0, hi439_0⟩ := at_L1 HR1_3.out x10_1 p439 q439
                   have hw439_0 := hx439_0
                   cases e439
                   replace hx439_0 := (HB.out.cell (World.block_lt_of_cell? w _ hx439_0)).trans hx439_0
                   have HR439_0 := As0.mk hi439_0
                   have HC439_0 := As0.mk hl439_0
                   clear hi439_0 hl439_0
                   replace p439 := eq_true p439
                   replace q439 := eq_true q439
                   have p440 : 0 ≤ (x11_2 : Int) := of_decide_eq_true (by first | (with_reducible assumption) | assumption)
                   have q440 : x11_2 < ((rd_L1 l1_3 x10_1).length : Int) := of_decide_eq_true (by first | (with_reducible assumption) | assumption)
                   obtain ⟨ad440, e440, hx440_0⟩ := Kd.at_int HR439_0.out x11_2 p440 q440
                   have hw440_0 := hx440_0
                   cases e440
                   replace hx440_0 := (HB.out.cell (World.block_lt_of_cell? w _ hx440_0)).trans hx440_0
                   replace p440 := eq_true p440
                   replace q440 := eq_true q440
                   have p38 : 0 ≤ ((ji35) : Int) := of_decide_eq_true (by first | (with_reducible assumption) | assumption)
                   have q38 : ((ji35) : Int) < (((rd_L1 x438003_2 x10_1).length : Int) : Int) := of_decide_eq_true (by first | (with_reducible assumption) | assumption)
                   obtain ⟨go38, co38, eo38, gb38, gl38, cl38, HG38⟩ := Kd.R_form HL438_0.out (by omega)
                   (first | cases eo38 | (injection eo38 with ea_ en_ ec_; (first | subst ea_ | (injection ea_ with ea_; subst ea_)); subst ec_; clear en_))
                   have GB38 := As0.mk gb38
                   have GG38 := As0.mk HG38
                   clear gb38 gl38 HG38
                   obtain ⟨hx38_0, hf38_0⟩ := Kd.R_celln 0 HL438_0.out ((ji35) : Int) p38 q38
                   replace p38 := eq_true p38
                   replace q38 := eq_true q38
                   have hq49 : (x10_1 : Int) < (x438003_2.length : Int) := (by have h_ : (x10_1 : Int) < ((x438003_2.length : Int) : Int) := of_decide_eq_true (by first | (with_reducible assumption) | assumption); first | exact h_ | (have e_ := (Kd.S_reads' HO_438003.out).1; omega) | simpa only [List.length_set, List.length_set] using h_)
                   obtain ⟨oki49, ce49, hcl49, hM49, hcc49, hok49, hbk49⟩ := Kd.S_borrow HO_438003.out [] (x10_1 : Int) (of_decide_eq_true (by first | (with_reducible assumption) | assumption)) hq49
                   obtain ⟨ve49_0, rfl, ge49_0⟩ := hM49
                   have hv49 := hcc49 0 _ rfl
                   rw [Nat.add_zero, show ((Kd.slice 3 (Kd.int .i64))).sz = 1 from rfl, Nat.mul_one] at hv49
                   replace hv49 := Option.some.inj (hv49.symm.trans HX438_0.out)
                   subst hv49
                   clear hcc49 hcl49
                   replace ge49_0 := (show Kd.R (Kd.int .i64) 3 _ _ _ _ (rd_L1 x438003_2 x10_1) from ge49_0)
                   have HP49 := Kd.R_putg ge49_0 ((ji35) : Int) (rd (rd_L1 l1_3 x10_1) x11_2)
                   rw [← Ny441.out] at HP49
                   have HS49 := hbk49 HP49.2 (fun k_ e_ => by injection e_ with e_; subst e_; exact ge49_0.1 _ rfl) (x' := y441) (Kd.M_row HP49.1)
                   rw [← Ny443.out] at HS49
                   have HQ49 := As0.mk HS49
                   clear HP49 HS49 hbk49 hok49
                   refine start_ (n := 21) (S := fun w' => w'.cell? ⟨gb437, 0, none⟩ = some (.int .i64 t431) ∧ w'.cell? ⟨gb437, 1, none⟩ = some (.int .i64 t432) ∧ w'.cell? ⟨gb437, 2, none⟩ = some (.int .i64 t433) ∧ w'.cell? ⟨gb437, 3, none⟩ = some (.slice (some ad438) x438003_2.length co48) ∧ w'.cell? ⟨gb429, 0, none⟩ = some (.int .i64 a1_0) ∧ w'.cell? ⟨gb429, 1, none⟩ = some (.int .i64 a1_1) ∧ w'.cell? ⟨gb429, 2, none⟩ = some (.int .i64 a1_2) ∧ w'.cell? ⟨gb429, 3, none⟩ = some (.slice (some ad439) l1_3.length c1_3) ∧ w'.cell? (ad438.add (x10_1).toNat) = some (.slice (some ⟨go38, 0, none⟩) (rd_L1 x438003_2 x10_1).length c438_0) ∧ w'.cell? (ad439.add (x10_1).toNat) = some (.slice (some ad440) (rd_L1 l1_3 x10_1).length c439_0) ∧ w'.cell? (ad440.add (x11_2).toNat) = some (.int .i64 (rd (rd_L1 l1_3 x10_1) x11_2))) (ds := [20]) #[false, false, false, false, false, false, false, false, false, false, false, false, false, false, false, false, false, false, false, false, false] (by kernel_rfl) rfl rfl ⟨(bkc BK437.out 0).trans rfl, (bkc BK437.out 1).trans rfl, (bkc BK437.out 2).trans rfl, (bkc BK437.out 3).trans rfl, (bkc BK429.out 0).trans rfl, (bkc BK429.out 1).trans rfl, (bkc BK429.out 2).trans rfl, (bkc BK429.out 3).trans rfl, hx438_0, ((HB.out.cell (World.block_lt_of_cell? w _ hw439_0)).trans hw439_0), ((HB.out.cell (World.block_lt_of_cell? w _ hw440_0)).trans hw440_0)⟩ (fun hHeld => ?_); refine with_tabW r15_drawn.tab10 r15_drawn.bits10 (fun HT_ HW_ => ?_)
                   generalize w43.drew = w47 at HO_438003 BK428 BK429 BK430 BK437 HB GG38 HL438_0 HQ49 HR438_0 HR439_0 HX438_0 hf38_0 hx38_0 hx438_0 hx439_0 hx440_0 hHeld ⊢
                   refine pure_ (i := 0) (N := some 62) (v := ?_) (a' := ?_) #[true, false, false, false, false, false, false, false, false, false, false, false, false, false, false, false, false, false, false, false, false] rfl rfl (any_of HT_.out (by kernel_rfl)) (fun _ _ _ h => h) (Or.inl ⟨by rfl, ?_⟩) ?_ ?_
                   rotate_left
                   ·intro w'
                    go_simp
                    with_reducible rfl
                   rotate_left
                   ·simp only [Act.put, List.setIfInBounds_toArray, List.set_cons_zero, List.set_cons_succ, i64_w, i32_w]
                    rfl
                   refine pure_ (i := 2) (N := some 64) (v := ?_) (a' := ?_) #[true, false, true, false, false, false, false, false, false, false, false, false, false, false, false, false, false, false, false, false, false] rfl rfl (any_of HT_.out (by kernel_rfl)) (fun _ _ _ h => h) (Or.inl ⟨by rfl, ?_⟩) ?_ ?_
                   rotate_left
                   ·intro w'
                    go_simp
                    with_reducible rfl
                   rotate_left
                   ·simp only [Act.put, List.setIfInBounds_toArray, List.set_cons_zero, List.set_cons_succ, i64_w, i32_w]
                    rfl
                   refine pure_ (i := 5) (N := some 67) (v := ?_) (a' := ?_) #[true, false, true, false, false, true, false, false, false, false, false, false, false, false, false, false, false, false, false, false, false] rfl rfl (any_of HT_.out (by kernel_rfl)) (fun _ _ _ h => h) (Or.inl ⟨by rfl, ?_⟩) ?_ ?_
                   rotate_left
                   ·intro w'
                    go_simp
                    with_reducible rfl
                   rotate_left
                   ·simp only [Act.put, List.setIfInBounds_toArray, List.set_cons_zero, List.set_cons_succ, i64_w, i32_w]
                    rfl
                   refine pure_ (i := 6) (N := some 68) (v := ?_) (a' := ?_) #[true, false, true, false, false, true, true, false, false, false, false, false, false, false, false, false, false, false, false, false, false] rfl rfl (any_of HT_.out (by kernel_rfl)) (fun _ _ _ h => h) (Or.inl ⟨by rfl, ?_⟩) ?_ ?_
                   rotate_left
                   ·intro w'
                    go_simp
                    with_reducible rfl
                   rotate_left
                   ·simp only [Act.put, List.setIfInBounds_toArray, List.set_cons_zero, List.set_cons_succ, i64_w, i32_w]
                    rfl
                   refine pure_ (i := 9) (N := some 71) (v := ?_) (a' := ?_) #[true, false, true, false, false, true, true, false, false, true, false, false, false, false, false, false, false, false, false, false, false] rfl rfl (any_of HT_.out (by kernel_rfl)) (fun _ _ _ h => h) (Or.inl ⟨by rfl, ?_⟩) ?_ ?_
                   rotate_left
                   ·intro w'
                    go_simp
                    with_reducible rfl
                   rotate_left
                   ·simp only [Act.put, List.setIfInBounds_toArray, List.set_cons_zero, List.set_cons_succ, i64_w, i32_w]
                    rfl
                   refine pure_ (i := 11) (N := some 73) (v := ?_) (a' := ?_) #[true, false, true, false, false, true, true, false, false, true, false, true, false, false, false, false, false, false, false, false, false] rfl rfl (any_of HT_.out (by kernel_rfl)) (fun _ _ _ h => h) (Or.inl ⟨by rfl, ?_⟩) ?_ ?_
                   rotate_left
                   ·intro w'
                    go_simp
                    with_reducible rfl
                   rotate_left
                   ·simp only [Act.put, List.setIfInBounds_toArray, List.set_cons_zero, List.set_cons_succ, i64_w, i32_w]
                    rfl
                   refine pure_ (i := 13) (N := some 75) (v := ?_) (a' := ?_) #[true, false, true, false, false, true, true, false, false, true, false, true, false, true, false, false, false, false, false, false, false] rfl rfl (any_of HT_.out (by kernel_rfl)) (fun _ _ _ h => h) (Or.inl ⟨by rfl, ?_⟩) ?_ ?_
                   rotate_left
                   ·intro w'
                    go_simp
                    with_reducible rfl
                   rotate_left
                   ·simp only [Act.put, List.setIfInBounds_toArray, List.set_cons_zero, List.set_cons_succ, i64_w, i32_w]
                    rfl
                   refine pure_ (i := 16) (N := some 78) (v := ?_) (a' := ?_) #[true, false, true, false, false, true, true, false, false, true, false, true, false, true, false, false, true, false, false, false, false] rfl rfl (any_of HT_.out (by kernel_rfl)) (fun _ _ _ h => h) (Or.inl ⟨by rfl, ?_⟩) ?_ ?_
                   rotate_left
                   ·intro w'
                    go_simp
                    with_reducible rfl
                   rotate_left
                   ·simp only [Act.put, List.setIfInBounds_toArray, List.set_cons_zero, List.set_cons_succ, i64_w, i32_w]
                    rfl
                   refine take_ (i := 1) (N := some 63) (v := ?_) (a' := ?_) #[true, true, true, false, false, true, true, false, false, true, false, true, false, true, false, false, true, false, false, false, false] rfl rfl (take_ofW HT_.out HW_.out (by kernel_rfl)) (fun _ _ _ h => h) (Or.inl ⟨by rfl, ?_⟩) hHeld ?_ ?_
                   rotate_left
                   ·rintro w' ⟨s0, s1, s2, s3, s4, s5, s6, s7, s8, s9, s10⟩
                    go_simp
                    with_reducible rfl
                   rotate_left
                   ·simp only [Act.put, List.setIfInBounds_toArray, List.set_cons_zero, List.set_cons_succ, i64_w, i32_w]
                    rfl
                   refine pure_ (i := 3) (N := some 65) (v := ?_) (a' := ?_) #[true, true, true, true, false, true, true, false, false, true, false, true, false, true, false, false, true, false, false, false, false] rfl rfl (any_of HT_.out (by kernel_rfl)) (fun _ _ _ h => h) (Or.inl ⟨by rfl, ?_⟩) ?_ ?_
                   rotate_left
                   ·intro w'
                    go_simp
                    with_reducible rfl
                   rotate_left
                   ·simp only [Act.put, List.setIfInBounds_toArray, List.set_cons_zero, List.set_cons_succ, i64_w, i32_w]
                    rfl
                   refine take_ (i := 4) (N := some 66) (v := ?_) (a' := ?_) #[true, true, true, true, true, true, true, false, false, true, false, true, false, true, false, false, true, false, false, false, false] rfl rfl (take_ofW HT_.out HW_.out (by kernel_rfl)) (fun _ _ _ h => h) (Or.inl ⟨by rfl, ?_⟩) hHeld ?_ ?_
                   rotate_left
                   ·rintro w' ⟨s0, s1, s2, s3, s4, s5, s6, s7, s8, s9, s10⟩
                    go_simp
                    with_reducible rfl
                   rotate_left
                   ·simp only [Act.put, List.setIfInBounds_toArray, List.set_cons_zero, List.set_cons_succ, i64_w, i32_w]
                    rfl
                   refine take_ (i := 7) (N := some 69) (v := ?_) (a' := ?_) #[true, true, true, true, true, true, true, true, false, true, false, true, false, true, false, false, true, false, false, false, false] rfl rfl (take_ofW HT_.out HW_.out (by kernel_rfl)) (fun _ _ _ h => h) (Or.inl ⟨by rfl, ?_⟩) hHeld ?_ ?_
                   rotate_left
                   ·rintro w' ⟨s0, s1, s2, s3, s4, s5, s6, s7, s8, s9, s10⟩
                    go_simp
                    with_reducible rfl
                   rotate_left
                   ·simp only [Act.put, List.setIfInBounds_toArray, List.set_cons_zero, List.set_cons_succ, i64_w, i32_w]
                    rfl
                   refine pure_ (i := 8) (N := some 70) (v := ?_) (a' := ?_) #[true, true, true, true, true, true, true, true, true, true, false, true, false, true, false, false, true, false, false, false, false] rfl rfl (any_of HT_.out (by kernel_rfl)) (fun _ _ _ h => h) (Or.inl ⟨by rfl, ?_⟩) ?_ ?_
                   rotate_left
                   ·intro w'
                    go_simp
                    with_reducible rfl
                   rotate_left
                   ·simp only [Act.put, List.setIfInBounds_toArray, List.set_cons_zero, List.set_cons_succ, i64_w, i32_w]
                    rfl
                   refine pure_ (i := 10) (N := some 72) (v := ?_) (a' := ?_) #[true, true, true, true, true, true, true, true, true, true, true, true, false, true, false, false, true, false, false, false, false] rfl rfl (any_of HT_.out (by kernel_rfl)) (fun _ _ _ h => h) (Or.inl ⟨by rfl, ?_⟩) ?_ ?_
                   rotate_left
                   ·intro w'
                    go_simp
                    with_reducible rfl
                   rotate_left
                   ·simp only [Act.put, List.setIfInBounds_toArray, List.set_cons_zero, List.set_cons_succ, i64_w, i32_w]
                    rfl
                   refine take_ (i := 12) (N := some 74) (v := ?_) (a' := ?_) #[true, true, true, true, true, true, true, true, true, true, true, true, true, true, false, false, true, false, false, false, false] rfl rfl (take_ofW HT_.out HW_.out (by kernel_rfl)) (fun _ _ _ h => h) (Or.inl ⟨by rfl, ?_⟩) hHeld ?_ ?_
                   rotate_left
                   ·rintro w' ⟨s0, s1, s2, s3, s4, s5, s6, s7, s8, s9, s10⟩
                    go_simp
                    with_reducible rfl
                   rotate_left
                   ·simp only [Act.put, List.setIfInBounds_toArray, List.set_cons_zero, List.set_cons_succ, i64_w, i32_w]
                    rfl
                   refine pure_ (i := 14) (N := some 76) (v := ?_) (a' := ?_) #[true, true, true, true, true, true, true, true, true, true, true, true, true, true, true, false, true, false, false, false, false] rfl rfl (any_of HT_.out (by kernel_rfl)) (fun _ _ _ h => h) (Or.inl ⟨by rfl, ?_⟩) ?_ ?_
                   rotate_left
                   ·intro w'
                    go_simp
                    with_reducible rfl
                   rotate_left
                   ·simp only [Act.put, List.setIfInBounds_toArray, List.set_cons_zero, List.set_cons_succ, i64_w, i32_w]
                    rfl
                   refine take_ (i := 15) (N := some 77) (v := ?_) (a' := ?_) #[true, true, true, true, true, true, true, true, true, true, true, true, true, true, true, true, true, false, false, false, false] rfl rfl (take_ofW HT_.out HW_.out (by kernel_rfl)) (fun _ _ _ h => h) (Or.inl ⟨by rfl, ?_⟩) hHeld ?_ ?_
                   rotate_left
                   ·rintro w' ⟨s0, s1, s2, s3, s4, s5, s6, s7, s8, s9, s10⟩
                    go_simp
                    with_reducible rfl
                   rotate_left
                   ·simp only [Act.put, List.setIfInBounds_toArray, List.set_cons_zero, List.set_cons_succ, i64_w, i32_w]
                    rfl
                   refine pure_ (i := 17) (N := some 79) (v := ?_) (a' := ?_) #[true, true, true, true, true, true, true, true, true, true, true, true, true, true, true, true, true, true, false, false, false] rfl rfl (any_of HT_.out (by kernel_rfl)) (fun _ _ _ h => h) (Or.inl ⟨by rfl, ?_⟩) ?_ ?_
                   rotate_left
                   ·intro w'
                    go_simp
                    with_reducible rfl
                   rotate_left
                   ·simp only [Act.put, List.setIfInBounds_toArray, List.set_cons_zero, List.set_cons_succ, i64_w, i32_w]
                    rfl
                   refine take_ (i := 18) (N := some 80) (v := ?_) (a' := ?_) #[true, true, true, true, true, true, true, true, true, true, true, true, true, true, true, true, true, true, true, false, false] rfl rfl (take_ofW HT_.out HW_.out (by kernel_rfl)) (fun _ _ _ h => h) (Or.inl ⟨by rfl, ?_⟩) hHeld ?_ ?_
                   rotate_left
                   ·rintro w' ⟨s0, s1, s2, s3, s4, s5, s6, s7, s8, s9, s10⟩
                    go_simp
                    with_reducible rfl
                   rotate_left
                   ·simp only [Act.put, List.setIfInBounds_toArray, List.set_cons_zero, List.set_cons_succ, i64_w, i32_w]
                    rfl
                   refine pure_ (i := 19) (N := some 81) (v := ?_) (a' := ?_) #[true, true, true, true, true, true, true, true, true, true, true, true, true, true, true, true, true, true, true, true, false] rfl rfl (any_of HT_.out (by kernel_rfl)) (fun _ _ _ h => h) (Or.inl ⟨by rfl, ?_⟩) ?_ ?_
                   rotate_left
                   ·intro w'
                    go_simp
                    with_reducible rfl
                   rotate_left
                   ·simp only [Act.put, List.setIfInBounds_toArray, List.set_cons_zero, List.set_cons_succ, i64_w, i32_w]
                    rfl
                   refine last_ (i := 20) (N := none) #[true, true, true, true, true, true, true, true, true, true, true, true, true, true, true, true, true, true, true, true, true] rfl rfl (one_of HT_.out (by kernel_rfl)) (by decide) (fun K hK => ?_)
                   refine skip_ (w1 := ?_) (by rfl) rfl ?_ ?_
                   rotate_left
                   ·go_simp
                    rfl
                   refine hK.out _ _ ?_
                   clear hK K
                   refine done_ (done_of HT_.out (by kernel_rfl)) ?_
                   try go_wp2
                   go_roundg k2
                   case measure => have := HK1.out; have := HK2.out; omega
                   case rel => exact ⟨(wrap64 (x11_2 + 1)), (y443), (.slice (some ad438) x438003_2.length co48), (by first | rfl | (simp; done) | (simp [*]; done)), H', ⟨by have := HK1.out; have := HK2.out; omega⟩, ⟨by (with_reducible repeat (first | apply Kd.S_alloc | apply Kd.S_drewN | apply Kd.S_drew)); exact HQ49.out⟩, ⟨by (with_reducible repeat (first | refine bkN ?_ _ | refine bkd ?_ | refine bka ?_ _)); refine bkf ?_ (by have h_ := Kd.R_ne HL438_0.out BK428.out (by decide); intro e_; exact h_ (by rw [e_]; rfl)) _; (with_reducible repeat (first | refine bkN ?_ _ | refine bkd ?_ | refine bka ?_ _)); exact BK428.out⟩, ⟨by (with_reducible repeat (first | refine bkN ?_ _ | refine bkd ?_ | refine bka ?_ _)); refine bkf ?_ (by have h_ := Kd.R_ne HL438_0.out BK429.out (by decide); intro e_; exact h_ (by rw [e_]; rfl)) _; (with_reducible repeat (first | refine bkN ?_ _ | refine bkd ?_ | refine bka ?_ _)); exact BK429.out⟩, ⟨by (with_reducible repeat (first | refine bkN ?_ _ | refine bkd ?_ | refine bka ?_ _)); refine bkf ?_ (by have h_ := Kd.R_ne HL438_0.out BK430.out (by decide); intro e_; exact h_ (by rw [e_]; rfl)) _; (with_reducible repeat (first | refine bkN ?_ _ | refine bkd ?_ | refine bka ?_ _)); exact BK430.out⟩, ⟨by (with_reducible repeat (first | refine bkN ?_ _ | refine bkd ?_ | refine bka ?_ _)); refine bkf ?_ (by have h_ := Kd.R_ne HL438_0.out BK437.out (by decide); intro e_; exact h_ (by rw [e_]; rfl)) _; (with_reducible repeat (first | refine bkN ?_ _ | refine bkd ?_ | refine bka ?_ _)); exact BK437.out⟩, ⟨by repeat (first | (with_reducible first | exact HB.out | apply bwa | apply pwN | apply bwd | refine bws ?_ GB38.out | refine bws ?_ GE428.out | refine bws ?_ GE429.out | refine bws ?_ GE430.out | refine bws ?_ GE437.out) | exact HB.out)⟩⟩
                  ·rw [if_neg c37] at H
                   exact absurd H (by simp)
                 ·rw [if_neg c36] at H
                  exact absurd H (by simp)
                ·rw [if_neg c34] at H
                 exact absurd H (by simp)
               ·rw [if_neg c33] at H
                exact absurd H (by simp)
              ·rw [if_neg c32] at H
               exact absurd H (by simp)
             ·rw [if_neg c31] at H
              exact absurd H (by simp)
            ·rw [if_neg c30] at H
             exact absurd H (by simp)
           ·rw [if_neg c29] at H
            have c29b0 : decide ((wrap64 (a3 + (wrap64 (Int.tdiv x11_2 a1_0)))) < t432) = false := decide_eq_false c29
            clear c29
            have H' := As0.mk H
            clear H
            have hnb51 := NB429_428.out
            have hnc51 := NB428_429.out
            have hnb52 := NB429_430.out
            have hnc52 := NB430_429.out
            have hnb53 := NB429_437.out
            have hnc53 := NB437_429.out
            have hcz54_0 : wr.cell? ⟨gb429, 0, none⟩ = some (.int .i64 a1_0) := (bkc BK429.out 0).trans rfl
            have hcz54_1 : wr.cell? ⟨gb429, 1, none⟩ = some (.int .i64 a1_1) := (bkc BK429.out 1).trans rfl
            have hcz54_2 : wr.cell? ⟨gb429, 2, none⟩ = some (.int .i64 a1_2) := (bkc BK429.out 2).trans rfl
            have hcz54_3 : wr.cell? ⟨gb429, 3, none⟩ = some (.slice A1_3 l1_3.length c1_3) := (bkc BK429.out 3).trans rfl
            have hfz54_0 := bkz BK429.out 0
            have hfz54_1 := bkz BK429.out 1
            have hfz54_2 := bkz BK429.out 2
            have hfz54_3 := bkz BK429.out 3
            try go_wp2
            have n0_ := As0.mk (Kd.S_drew HO_438003.out)
            have n1_ := As0.mk (bkd BK428.out)
            have n2_ := As0.mk (bkd BK429.out)
            have n3_ := As0.mk (bkd BK430.out)
            have n4_ := As0.mk (bkd BK437.out)
            have n5_ := As0.mk (bwd HB.out)
            clear HO_438003
            clear BK428
            clear BK429
            clear BK430
            clear BK437
            clear HB
            have HO_438003 := n0_
            have BK428 := n1_
            have BK429 := n2_
            have BK430 := n3_
            have BK437 := n4_
            have HB := n5_
            clear n0_ n1_ n2_ n3_ n4_ n5_
            refine start_ (n := 14) (S := fun w' => w'.cell? ⟨gb429, 0, none⟩ = some (.int .i64 a1_0) ∧ w'.cell? ⟨gb429, 1, none⟩ = some (.int .i64 a1_1) ∧ w'.cell? ⟨gb429, 2, none⟩ = some (.int .i64 a1_2) ∧ w'.cell? ⟨gb429, 3, none⟩ = some (.slice A1_3 l1_3.length c1_3)) (ds := []) #[false, false, false, false, false, false, false, false, false, false, false, false, false, false] (by kernel_rfl) rfl rfl ⟨(bkc BK429.out 0).trans rfl, (bkc BK429.out 1).trans rfl, (bkc BK429.out 2).trans rfl, (bkc BK429.out 3).trans rfl⟩ (fun hHeld => ?_); refine with_tabW r15_drawn.tab8 r15_drawn.bits8 (fun HT_ HW_ => ?_)
            generalize wr.drew = w55 at HO_438003 BK428 BK429 BK430 BK437 HB hHeld ⊢
            refine pure_ (i := 0) (N := some 32) (v := ?_) (a' := ?_) #[true, false, false, false, false, false, false, false, false, false, false, false, false, false] rfl rfl (any_of HT_.out (by kernel_rfl)) (fun _ _ _ h => h) (Or.inl ⟨by rfl, ?_⟩) ?_ ?_
            rotate_left
            ·intro w'
             go_simp
             with_reducible rfl
            rotate_left
            ·simp only [Act.put, List.setIfInBounds_toArray, List.set_cons_zero, List.set_cons_succ, i64_w, i32_w]
             rfl
            refine pure_ (i := 1) (N := some 33) (v := ?_) (a' := ?_) #[true, true, false, false, false, false, false, false, false, false, false, false, false, false] rfl rfl (any_of HT_.out (by kernel_rfl)) (fun _ _ _ h => h) (Or.inl ⟨by rfl, ?_⟩) ?_ ?_
            rotate_left
            ·intro w'
             go_simp
             with_reducible rfl
            rotate_left
            ·simp only [Act.put, List.setIfInBounds_toArray, List.set_cons_zero, List.set_cons_succ, i64_w, i32_w]
             rfl
            refine pure_ (i := 2) (N := some 34) (v := ?_) (a' := ?_) #[true, true, true, false, false, false, false, false, false, false, false, false, false, false] rfl rfl (any_of HT_.out (by kernel_rfl)) (fun _ _ _ h => h) (Or.inl ⟨by rfl, ?_⟩) ?_ ?_
            rotate_left
            ·intro w'
             go_simp
             with_reducible rfl
            rotate_left
            ·simp only [Act.put, List.setIfInBounds_toArray, List.set_cons_zero, List.set_cons_succ, i64_w, i32_w]
             rfl
            refine pure_ (i := 6) (N := some 38) (v := ?_) (a' := ?_) #[true, true, true, false, false, false, true, false, false, false, false, false, false, false] rfl rfl (any_of HT_.out (by kernel_rfl)) (fun _ _ _ h => h) (Or.inl ⟨by rfl, ?_⟩) ?_ ?_
            rotate_left
            ·intro w'
             go_simp
             with_reducible rfl
            rotate_left
            ·simp only [Act.put, List.setIfInBounds_toArray, List.set_cons_zero, List.set_cons_succ, i64_w, i32_w]
             rfl
            refine pure_ (i := 7) (N := some 39) (v := ?_) (a' := ?_) #[true, true, true, false, false, false, true, true, false, false, false, false, false, false] rfl rfl (any_of HT_.out (by kernel_rfl)) (fun _ _ _ h => h) (Or.inl ⟨by rfl, ?_⟩) ?_ ?_
            rotate_left
            ·intro w'
             go_simp
             with_reducible rfl
            rotate_left
            ·simp only [Act.put, List.setIfInBounds_toArray, List.set_cons_zero, List.set_cons_succ, i64_w, i32_w]
             rfl
            refine pure_ (i := 8) (N := some 40) (v := ?_) (a' := ?_) #[true, true, true, false, false, false, true, true, true, false, false, false, false, false] rfl rfl (any_of HT_.out (by kernel_rfl)) (fun _ _ _ h => h) (Or.inl ⟨by rfl, ?_⟩) ?_ ?_
            rotate_left
            ·intro w'
             go_simp
             with_reducible rfl
            rotate_left
            ·simp only [Act.put, List.setIfInBounds_toArray, List.set_cons_zero, List.set_cons_succ, i64_w, i32_w]
             rfl
            refine take_ (i := 3) (N := some 35) (v := ?_) (a' := ?_) #[true, true, true, true, false, false, true, true, true, false, false, false, false, false] rfl rfl (take_ofW HT_.out HW_.out (by kernel_rfl)) (fun _ _ _ h => h) (Or.inl ⟨by rfl, ?_⟩) hHeld ?_ ?_
            rotate_left
            ·rintro w' ⟨s0, s1, s2, s3⟩
             go_simp
             with_reducible rfl
            rotate_left
            ·simp only [Act.put, List.setIfInBounds_toArray, List.set_cons_zero, List.set_cons_succ, i64_w, i32_w]
             rfl
            refine pure_ (i := 4) (N := some 36) (v := ?_) (a' := ?_) #[true, true, true, true, true, false, true, true, true, false, false, false, false, false] rfl rfl (any_of HT_.out (by kernel_rfl)) (fun _ _ _ h => h) (Or.inl ⟨by rfl, ?_⟩) ?_ ?_
            rotate_left
            ·intro w'
             go_simp
             with_reducible rfl
            rotate_left
            ·simp only [Act.put, List.setIfInBounds_toArray, List.set_cons_zero, List.set_cons_succ, i64_w, i32_w]
             rfl
            refine pure_ (i := 5) (N := some 37) (v := ?_) (a' := ?_) #[true, true, true, true, true, true, true, true, true, false, false, false, false, false] rfl rfl (any_of HT_.out (by kernel_rfl)) (fun _ _ _ h => h) (Or.inl ⟨by rfl, ?_⟩) ?_ ?_
            rotate_left
            ·intro w'
             go_simp
             with_reducible rfl
            rotate_left
            ·simp only [Act.put, List.setIfInBounds_toArray, List.set_cons_zero, List.set_cons_succ, i64_w, i32_w]
             rfl
            refine pure_ (i := 12) (N := some 12) (v := ?_) (a' := ?_) #[true, true, true, true, true, true, true, true, true, false, false, false, true, false] rfl rfl (any_of HT_.out (by kernel_rfl)) (fun _ _ _ h => h) (Or.inl ⟨by rfl, ?_⟩) ?_ ?_
            rotate_left
            ·intro w'
             go_simp
             with_reducible rfl
            rotate_left
            ·simp only [Act.put, List.setIfInBounds_toArray, List.set_cons_zero, List.set_cons_succ, i64_w, i32_w]
             rfl
            refine take_ (i := 9) (N := some 41) (v := ?_) (a' := ?_) #[true, true, true, true, true, true, true, true, true, true, false, false, true, false] rfl rfl (take_ofW HT_.out HW_.out (by kernel_rfl)) (fun _ _ _ h => h) (Or.inl ⟨by rfl, ?_⟩) hHeld ?_ ?_
            rotate_left
            ·rintro w' ⟨s0, s1, s2, s3⟩
             go_simp
             with_reducible rfl
            rotate_left
            ·simp only [Act.put, List.setIfInBounds_toArray, List.set_cons_zero, List.set_cons_succ, i64_w, i32_w]
             rfl
            refine pure_ (i := 10) (N := some 42) (v := ?_) (a' := ?_) #[true, true, true, true, true, true, true, true, true, true, true, false, true, false] rfl rfl (any_of HT_.out (by kernel_rfl)) (fun _ _ _ h => h) (Or.inl ⟨by rfl, ?_⟩) ?_ ?_
            rotate_left
            ·intro w'
             go_simp
             with_reducible rfl
            rotate_left
            ·simp only [Act.put, List.setIfInBounds_toArray, List.set_cons_zero, List.set_cons_succ, i64_w, i32_w]
             rfl
            refine pure_ (i := 11) (N := some 43) (v := ?_) (a' := ?_) #[true, true, true, true, true, true, true, true, true, true, true, true, true, false] rfl rfl (any_of HT_.out (by kernel_rfl)) (fun _ _ _ h => h) (Or.inl ⟨by rfl, ?_⟩) ?_ ?_
            rotate_left
            ·intro w'
             go_simp
             with_reducible rfl
            rotate_left
            ·simp only [Act.put, List.setIfInBounds_toArray, List.set_cons_zero, List.set_cons_succ, i64_w, i32_w]
             rfl
            refine pure_ (i := 13) (N := some 13) (v := ?_) (a' := ?_) #[true, true, true, true, true, true, true, true, true, true, true, true, true, true] rfl rfl (any_of HT_.out (by kernel_rfl)) (fun _ _ _ h => h) (Or.inl ⟨by rfl, ?_⟩) ?_ ?_
            rotate_left
            ·intro w'
             go_simp
             with_reducible rfl
            rotate_left
            ·simp only [Act.put, List.setIfInBounds_toArray, List.set_cons_zero, List.set_cons_succ, i64_w, i32_w]
             rfl
            refine done_ (done_of HT_.out (by kernel_rfl)) ?_
            have hnb56 := NB437_428.out
            have hnc56 := NB428_437.out
            have hnb57 := NB437_430.out
            have hnc57 := NB430_437.out
            have hcz58_0 : w55.cell? ⟨gb437, 0, none⟩ = some (.int .i64 t431) := (bkc BK437.out 0).trans rfl
            have hcz58_1 : w55.cell? ⟨gb437, 1, none⟩ = some (.int .i64 t432) := (bkc BK437.out 1).trans rfl
            have hcz58_2 : w55.cell? ⟨gb437, 2, none⟩ = some (.int .i64 t433) := (bkc BK437.out 2).trans rfl
            have hcz58_3 : w55.cell? ⟨gb437, 3, none⟩ = some (u438003) := (bkc BK437.out 3).trans rfl
            have hfz58_0 := bkz BK437.out 0
            have hfz58_1 := bkz BK437.out 1
            have hfz58_2 := bkz BK437.out 2
            have hfz58_3 := bkz BK437.out 3
            try go_wp2
            go_roundg k2
            case measure => have := HK1.out; have := HK2.out; omega
            case rel => exact ⟨(wrap64 (x11_2 + 1)), (x438003_2), (u438003), (by first | rfl | (simp; done) | (simp [*]; done)), H', ⟨by have := HK1.out; have := HK2.out; omega⟩, ⟨by (with_reducible repeat (first | apply Kd.S_alloc | apply Kd.S_drewN | apply Kd.S_drew)); exact HO_438003.out⟩, ⟨by (with_reducible repeat (first | refine bkN ?_ _ | refine bkd ?_ | refine bka ?_ _)); exact BK428.out⟩, ⟨by (with_reducible repeat (first | refine bkN ?_ _ | refine bkd ?_ | refine bka ?_ _)); exact BK429.out⟩, ⟨by (with_reducible repeat (first | refine bkN ?_ _ | refine bkd ?_ | refine bka ?_ _)); exact BK430.out⟩, ⟨by (with_reducible repeat (first | refine bkN ?_ _ | refine bkd ?_ | refine bka ?_ _)); exact BK437.out⟩, ⟨by repeat (first | (with_reducible first | exact HB.out | apply bwa | apply pwN | apply bwd | refine bws ?_ GE428.out | refine bws ?_ GE429.out | refine bws ?_ GE430.out | refine bws ?_ GE437.out) | exact HB.out)⟩⟩
          ·rw [if_neg c28] at H
           have c28b0 : decide (0 ≤ (wrap64 (a3 + (wrap64 (Int.tdiv x11_2 a1_0))))) = false := decide_eq_false c28
           clear c28
           have H' := As0.mk H
           clear H
           have hnb59 := NB429_428.out
           have hnc59 := NB428_429.out
           have hnb60 := NB429_430.out
           have hnc60 := NB430_429.out
           have hnb61 := NB429_437.out
           have hnc61 := NB437_429.out
           have hcz62_0 : wr.cell? ⟨gb429, 0, none⟩ = some (.int .i64 a1_0) := (bkc BK429.out 0).trans rfl
           have hcz62_1 : wr.cell? ⟨gb429, 1, none⟩ = some (.int .i64 a1_1) := (bkc BK429.out 1).trans rfl
           have hcz62_2 : wr.cell? ⟨gb429, 2, none⟩ = some (.int .i64 a1_2) := (bkc BK429.out 2).trans rfl
           have hcz62_3 : wr.cell? ⟨gb429, 3, none⟩ = some (.slice A1_3 l1_3.length c1_3) := (bkc BK429.out 3).trans rfl
           have hfz62_0 := bkz BK429.out 0
           have hfz62_1 := bkz BK429.out 1
           have hfz62_2 := bkz BK429.out 2
           have hfz62_3 := bkz BK429.out 3
           try go_wp2
           have n0_ := As0.mk (Kd.S_drew HO_438003.out)
           have n1_ := As0.mk (bkd BK428.out)
           have n2_ := As0.mk (bkd BK429.out)
           have n3_ := As0.mk (bkd BK430.out)
           have n4_ := As0.mk (bkd BK437.out)
           have n5_ := As0.mk (bwd HB.out)
           clear HO_438003
           clear BK428
           clear BK429
           clear BK430
           clear BK437
           clear HB
           have HO_438003 := n0_
           have BK428 := n1_
           have BK429 := n2_
           have BK430 := n3_
           have BK437 := n4_
           have HB := n5_
           clear n0_ n1_ n2_ n3_ n4_ n5_
           refine start_ (n := 14) (S := fun w' => w'.cell? ⟨gb429, 0, none⟩ = some (.int .i64 a1_0) ∧ w'.cell? ⟨gb429, 1, none⟩ = some (.int .i64 a1_1) ∧ w'.cell? ⟨gb429, 2, none⟩ = some (.int .i64 a1_2) ∧ w'.cell? ⟨gb429, 3, none⟩ = some (.slice A1_3 l1_3.length c1_3)) (ds := []) #[false, false, false, false, false, false, false, false, false, false, false, false, false, false] (by kernel_rfl) rfl rfl ⟨(bkc BK429.out 0).trans rfl, (bkc BK429.out 1).trans rfl, (bkc BK429.out 2).trans rfl, (bkc BK429.out 3).trans rfl⟩ (fun hHeld => ?_); refine with_tabW r15_drawn.tab8 r15_drawn.bits8 (fun HT_ HW_ => ?_)
           generalize wr.drew = w63 at HO_438003 BK428 BK429 BK430 BK437 HB hHeld ⊢
           refine pure_ (i := 0) (N := some 32) (v := ?_) (a' := ?_) #[true, false, false, false, false, false, false, false, false, false, false, false, false, false] rfl rfl (any_of HT_.out (by kernel_rfl)) (fun _ _ _ h => h) (Or.inl ⟨by rfl, ?_⟩) ?_ ?_
           rotate_left
           ·intro w'
            go_simp
            with_reducible rfl
           rotate_left
           ·simp only [Act.put, List.setIfInBounds_toArray, List.set_cons_zero, List.set_cons_succ, i64_w, i32_w]
            rfl
           refine pure_ (i := 1) (N := some 33) (v := ?_) (a' := ?_) #[true, true, false, false, false, false, false, false, false, false, false, false, false, false] rfl rfl (any_of HT_.out (by kernel_rfl)) (fun _ _ _ h => h) (Or.inl ⟨by rfl, ?_⟩) ?_ ?_
           rotate_left
           ·intro w'
            go_simp
            with_reducible rfl
           rotate_left
           ·simp only [Act.put, List.setIfInBounds_toArray, List.set_cons_zero, List.set_cons_succ, i64_w, i32_w]
            rfl
           refine pure_ (i := 2) (N := some 34) (v := ?_) (a' := ?_) #[true, true, true, false, false, false, false, false, false, false, false, false, false, false] rfl rfl (any_of HT_.out (by kernel_rfl)) (fun _ _ _ h => h) (Or.inl ⟨by rfl, ?_⟩) ?_ ?_
           rotate_left
           ·intro w'
            go_simp
            with_reducible rfl
           rotate_left
           ·simp only [Act.put, List.setIfInBounds_toArray, List.set_cons_zero, List.set_cons_succ, i64_w, i32_w]
            rfl
           refine pure_ (i := 6) (N := some 38) (v := ?_) (a' := ?_) #[true, true, true, false, false, false, true, false, false, false, false, false, false, false] rfl rfl (any_of HT_.out (by kernel_rfl)) (fun _ _ _ h => h) (Or.inl ⟨by rfl, ?_⟩) ?_ ?_
           rotate_left
           ·intro w'
            go_simp
            with_reducible rfl
           rotate_left
           ·simp only [Act.put, List.setIfInBounds_toArray, List.set_cons_zero, List.set_cons_succ, i64_w, i32_w]
            rfl
           refine pure_ (i := 7) (N := some 39) (v := ?_) (a' := ?_) #[true, true, true, false, false, false, true, true, false, false, false, false, false, false] rfl rfl (any_of HT_.out (by kernel_rfl)) (fun _ _ _ h => h) (Or.inl ⟨by rfl, ?_⟩) ?_ ?_
           rotate_left
           ·intro w'
            go_simp
            with_reducible rfl
           rotate_left
           ·simp only [Act.put, List.setIfInBounds_toArray, List.set_cons_zero, List.set_cons_succ, i64_w, i32_w]
            rfl
           refine pure_ (i := 8) (N := some 40) (v := ?_) (a' := ?_) #[true, true, true, false, false, false, true, true, true, false, false, false, false, false] rfl rfl (any_of HT_.out (by kernel_rfl)) (fun _ _ _ h => h) (Or.inl ⟨by rfl, ?_⟩) ?_ ?_
           rotate_left
           ·intro w'
            go_simp
            with_reducible rfl
           rotate_left
           ·simp only [Act.put, List.setIfInBounds_toArray, List.set_cons_zero, List.set_cons_succ, i64_w, i32_w]
            rfl
           refine take_ (i := 3) (N := some 35) (v := ?_) (a' := ?_) #[true, true, true, true, false, false, true, true, true, false, false, false, false, false] rfl rfl (take_ofW HT_.out HW_.out (by kernel_rfl)) (fun _ _ _ h => h) (Or.inl ⟨by rfl, ?_⟩) hHeld ?_ ?_
           rotate_left
           ·rintro w' ⟨s0, s1, s2, s3⟩
            go_simp
            with_reducible rfl
           rotate_left
           ·simp only [Act.put, List.setIfInBounds_toArray, List.set_cons_zero, List.set_cons_succ, i64_w, i32_w]
            rfl
           refine pure_ (i := 4) (N := some 36) (v := ?_) (a' := ?_) #[true, true, true, true, true, false, true, true, true, false, false, false, false, false] rfl rfl (any_of HT_.out (by kernel_rfl)) (fun _ _ _ h => h) (Or.inl ⟨by rfl, ?_⟩) ?_ ?_
           rotate_left
           ·intro w'
            go_simp
            with_reducible rfl
           rotate_left
           ·simp only [Act.put, List.setIfInBounds_toArray, List.set_cons_zero, List.set_cons_succ, i64_w, i32_w]
            rfl
           refine pure_ (i := 5) (N := some 37) (v := ?_) (a' := ?_) #[true, true, true, true, true, true, true, true, true, false, false, false, false, false] rfl rfl (any_of HT_.out (by kernel_rfl)) (fun _ _ _ h => h) (Or.inl ⟨by rfl, ?_⟩) ?_ ?_
           rotate_left
           ·intro w'
            go_simp
            with_reducible rfl
           rotate_left
           ·simp only [Act.put, List.setIfInBounds_toArray, List.set_cons_zero, List.set_cons_succ, i64_w, i32_w]
            rfl
           refine pure_ (i := 12) (N := some 12) (v := ?_) (a' := ?_) #[true, true, true, true, true, true, true, true, true, false, false, false, true, false] rfl rfl (any_of HT_.out (by kernel_rfl)) (fun _ _ _ h => h) (Or.inl ⟨by rfl, ?_⟩) ?_ ?_
           rotate_left
           ·intro w'
            go_simp
            with_reducible rfl
           rotate_left
           ·simp only [Act.put, List.setIfInBounds_toArray, List.set_cons_zero, List.set_cons_succ, i64_w, i32_w]
            rfl
           refine take_ (i := 9) (N := some 41) (v := ?_) (a' := ?_) #[true, true, true, true, true, true, true, true, true, true, false, false, true, false] rfl rfl (take_ofW HT_.out HW_.out (by kernel_rfl)) (fun _ _ _ h => h) (Or.inl ⟨by rfl, ?_⟩) hHeld ?_ ?_
           rotate_left
           ·rintro w' ⟨s0, s1, s2, s3⟩
            go_simp
            with_reducible rfl
           rotate_left
           ·simp only [Act.put, List.setIfInBounds_toArray, List.set_cons_zero, List.set_cons_succ, i64_w, i32_w]
            rfl
           refine pure_ (i := 10) (N := some 42) (v := ?_) (a' := ?_) #[true, true, true, true, true, true, true, true, true, true, true, false, true, false] rfl rfl (any_of HT_.out (by kernel_rfl)) (fun _ _ _ h => h) (Or.inl ⟨by rfl, ?_⟩) ?_ ?_
           rotate_left
           ·intro w'
            go_simp
            with_reducible rfl
           rotate_left
           ·simp only [Act.put, List.setIfInBounds_toArray, List.set_cons_zero, List.set_cons_succ, i64_w, i32_w]
            rfl
           refine pure_ (i := 11) (N := some 43) (v := ?_) (a' := ?_) #[true, true, true, true, true, true, true, true, true, true, true, true, true, false] rfl rfl (any_of HT_.out (by kernel_rfl)) (fun _ _ _ h => h) (Or.inl ⟨by rfl, ?_⟩) ?_ ?_
           rotate_left
           ·intro w'
            go_simp
            with_reducible rfl
           rotate_left
           ·simp only [Act.put, List.setIfInBounds_toArray, List.set_cons_zero, List.set_cons_succ, i64_w, i32_w]
            rfl
           refine pure_ (i := 13) (N := some 13) (v := ?_) (a' := ?_) #[true, true, true, true, true, true, true, true, true, true, true, true, true, true] rfl rfl (any_of HT_.out (by kernel_rfl)) (fun _ _ _ h => h) (Or.inl ⟨by rfl, ?_⟩) ?_ ?_
           rotate_left
           ·intro w'
            go_simp
            with_reducible rfl
           rotate_left
           ·simp only [Act.put, List.setIfInBounds_toArray, List.set_cons_zero, List.set_cons_succ, i64_w, i32_w]
            rfl
           refine done_ (done_of HT_.out (by kernel_rfl)) ?_
           have hnb64 := NB437_428.out
           have hnc64 := NB428_437.out
           have hnb65 := NB437_430.out
           have hnc65 := NB430_437.out
           have hcz66_0 : w63.cell? ⟨gb437, 0, none⟩ = some (.int .i64 t431) := (bkc BK437.out 0).trans rfl
           have hcz66_1 : w63.cell? ⟨gb437, 1, none⟩ = some (.int .i64 t432) := (bkc BK437.out 1).trans rfl
           have hcz66_2 : w63.cell? ⟨gb437, 2, none⟩ = some (.int .i64 t433) := (bkc BK437.out 2).trans rfl
           have hcz66_3 : w63.cell? ⟨gb437, 3, none⟩ = some (u438003) := (bkc BK437.out 3).trans rfl
           have hfz66_0 := bkz BK437.out 0
           have hfz66_1 := bkz BK437.out 1
           have hfz66_2 := bkz BK437.out 2
           have hfz66_3 := bkz BK437.out 3
           try go_wp2
           go_roundg k2
           case measure => have := HK1.out; have := HK2.out; omega
           case rel => exact ⟨(wrap64 (x11_2 + 1)), (x438003_2), (u438003), (by first | rfl | (simp; done) | (simp [*]; done)), H', ⟨by have := HK1.out; have := HK2.out; omega⟩, ⟨by (with_reducible repeat (first | apply Kd.S_alloc | apply Kd.S_drewN | apply Kd.S_drew)); exact HO_438003.out⟩, ⟨by (with_reducible repeat (first | refine bkN ?_ _ | refine bkd ?_ | refine bka ?_ _)); exact BK428.out⟩, ⟨by (with_reducible repeat (first | refine bkN ?_ _ | refine bkd ?_ | refine bka ?_ _)); exact BK429.out⟩, ⟨by (with_reducible repeat (first | refine bkN ?_ _ | refine bkd ?_ | refine bka ?_ _)); exact BK430.out⟩, ⟨by (with_reducible repeat (first | refine bkN ?_ _ | refine bkd ?_ | refine bka ?_ _)); exact BK437.out⟩, ⟨by repeat (first | (with_reducible first | exact HB.out | apply bwa | apply pwN | apply bwd | refine bws ?_ GE428.out | refine bws ?_ GE429.out | refine bws ?_ GE430.out | refine bws ?_ GE437.out) | exact HB.out)⟩⟩
         ·rw [if_neg c27] at H
          have c27b0 : decide ((wrap64 (a2 + (Int.tmod x11_2 a1_0))) < t431) = false := decide_eq_false c27
          clear c27
          have H' := As0.mk H
          clear H
          have hnb67 := NB429_428.out
          have hnc67 := NB428_429.out
          have hnb68 := NB429_430.out
          have hnc68 := NB430_429.out
          have hnb69 := NB429_437.out
          have hnc69 := NB437_429.out
          have hcz70_0 : wr.cell? ⟨gb429, 0, none⟩ = some (.int .i64 a1_0) := (bkc BK429.out 0).trans rfl
          have hcz70_1 : wr.cell? ⟨gb429, 1, none⟩ = some (.int .i64 a1_1) := (bkc BK429.out 1).trans rfl
          have hcz70_2 : wr.cell? ⟨gb429, 2, none⟩ = some (.int .i64 a1_2) := (bkc BK429.out 2).trans rfl
          have hcz70_3 : wr.cell? ⟨gb429, 3, none⟩ = some (.slice A1_3 l1_3.length c1_3) := (bkc BK429.out 3).trans rfl
          have hfz70_0 := bkz BK429.out 0
          have hfz70_1 := bkz BK429.out 1
          have hfz70_2 := bkz BK429.out 2
          have hfz70_3 := bkz BK429.out 3
          try go_wp2
          have n0_ := As0.mk (Kd.S_drew HO_438003.out)
          have n1_ := As0.mk (bkd BK428.out)
          have n2_ := As0.mk (bkd BK429.out)
          have n3_ := As0.mk (bkd BK430.out)
          have n4_ := As0.mk (bkd BK437.out)
          have n5_ := As0.mk (bwd HB.out)
          clear HO_438003
          clear BK428
          clear BK429
          clear BK430
          clear BK437
          clear HB
          have HO_438003 := n0_
          have BK428 := n1_
          have BK429 := n2_
          have BK430 := n3_
          have BK437 := n4_
          have HB := n5_
          clear n0_ n1_ n2_ n3_ n4_ n5_
          refine start_ (n := 14) (S := fun w' => w'.cell? ⟨gb429, 0, none⟩ = some (.int .i64 a1_0) ∧ w'.cell? ⟨gb429, 1, none⟩ = some (.int .i64 a1_1) ∧ w'.cell? ⟨gb429, 2, none⟩ = some (.int .i64 a1_2) ∧ w'.cell? ⟨gb429, 3, none⟩ = some (.slice A1_3 l1_3.length c1_3)) (ds := []) #[false, false, false, false, false, false, false, false, false, false, false, false, false, false] (by kernel_rfl) rfl rfl ⟨(bkc BK429.out 0).trans rfl, (bkc BK429.out 1).trans rfl, (bkc BK429.out 2).trans rfl, (bkc BK429.out 3).trans rfl⟩ (fun hHeld => ?_); refine with_tabW r15_drawn.tab8 r15_drawn.bits8 (fun HT_ HW_ => ?_)
          generalize wr.drew = w71 at HO_438003 BK428 BK429 BK430 BK437 HB hHeld ⊢
          refine pure_ (i := 0) (N := some 32) (v := ?_) (a' := ?_) #[true, false, false, false, false, false, false, false, false, false, false, false, false, false] rfl rfl (any_of HT_.out (by kernel_rfl)) (fun _ _ _ h => h) (Or.inl ⟨by rfl, ?_⟩) ?_ ?_
          rotate_left
          ·intro w'
           go_simp
           with_reducible rfl
          rotate_left
          ·simp only [Act.put, List.setIfInBounds_toArray, List.set_cons_zero, List.set_cons_succ, i64_w, i32_w]
           rfl
          refine pure_ (i := 1) (N := some 33) (v := ?_) (a' := ?_) #[true, true, false, false, false, false, false, false, false, false, false, false, false, false] rfl rfl (any_of HT_.out (by kernel_rfl)) (fun _ _ _ h => h) (Or.inl ⟨by rfl, ?_⟩) ?_ ?_
          rotate_left
          ·intro w'
           go_simp
           with_reducible rfl
          rotate_left
          ·simp only [Act.put, List.setIfInBounds_toArray, List.set_cons_zero, List.set_cons_succ, i64_w, i32_w]
           rfl
          refine pure_ (i := 2) (N := some 34) (v := ?_) (a' := ?_) #[true, true, true, false, false, false, false, false, false, false, false, false, false, false] rfl rfl (any_of HT_.out (by kernel_rfl)) (fun _ _ _ h => h) (Or.inl ⟨by rfl, ?_⟩) ?_ ?_
          rotate_left
          ·intro w'
           go_simp
           with_reducible rfl
          rotate_left
          ·simp only [Act.put, List.setIfInBounds_toArray, List.set_cons_zero, List.set_cons_succ, i64_w, i32_w]
           rfl
          refine pure_ (i := 6) (N := some 38) (v := ?_) (a' := ?_) #[true, true, true, false, false, false, true, false, false, false, false, false, false, false] rfl rfl (any_of HT_.out (by kernel_rfl)) (fun _ _ _ h => h) (Or.inl ⟨by rfl, ?_⟩) ?_ ?_
          rotate_left
          ·intro w'
           go_simp
           with_reducible rfl
          rotate_left
          ·simp only [Act.put, List.setIfInBounds_toArray, List.set_cons_zero, List.set_cons_succ, i64_w, i32_w]
           rfl
          refine pure_ (i := 7) (N := some 39) (v := ?_) (a' := ?_) #[true, true, true, false, false, false, true, true, false, false, false, false, false, false] rfl rfl (any_of HT_.out (by kernel_rfl)) (fun _ _ _ h => h) (Or.inl ⟨by rfl, ?_⟩) ?_ ?_
          rotate_left
          ·intro w'
           go_simp
           with_reducible rfl
          rotate_left
          ·simp only [Act.put, List.setIfInBounds_toArray, List.set_cons_zero, List.set_cons_succ, i64_w, i32_w]
           rfl
          refine pure_ (i := 8) (N := some 40) (v := ?_) (a' := ?_) #[true, true, true, false, false, false, true, true, true, false, false, false, false, false] rfl rfl (any_of HT_.out (by kernel_rfl)) (fun _ _ _ h => h) (Or.inl ⟨by rfl, ?_⟩) ?_ ?_
          rotate_left
          ·intro w'
           go_simp
           with_reducible rfl
          rotate_left
          ·simp only [Act.put, List.setIfInBounds_toArray, List.set_cons_zero, List.set_cons_succ, i64_w, i32_w]
           rfl
          refine take_ (i := 3) (N := some 35) (v := ?_) (a' := ?_) #[true, true, true, true, false, false, true, true, true, false, false, false, false, false] rfl rfl (take_ofW HT_.out HW_.out (by kernel_rfl)) (fun _ _ _ h => h) (Or.inl ⟨by rfl, ?_⟩) hHeld ?_ ?_
          rotate_left
          ·rintro w' ⟨s0, s1, s2, s3⟩
           go_simp
           with_reducible rfl
          rotate_left
          ·simp only [Act.put, List.setIfInBounds_toArray, List.set_cons_zero, List.set_cons_succ, i64_w, i32_w]
           rfl
          refine pure_ (i := 4) (N := some 36) (v := ?_) (a' := ?_) #[true, true, true, true, true, false, true, true, true, false, false, false, false, false] rfl rfl (any_of HT_.out (by kernel_rfl)) (fun _ _ _ h => h) (Or.inl ⟨by rfl, ?_⟩) ?_ ?_
          rotate_left
          ·intro w'
           go_simp
           with_reducible rfl
          rotate_left
          ·simp only [Act.put, List.setIfInBounds_toArray, List.set_cons_zero, List.set_cons_succ, i64_w, i32_w]
           rfl
          refine pure_ (i := 5) (N := some 37) (v := ?_) (a' := ?_) #[true, true, true, true, true, true, true, true, true, false, false, false, false, false] rfl rfl (any_of HT_.out (by kernel_rfl)) (fun _ _ _ h => h) (Or.inl ⟨by rfl, ?_⟩) ?_ ?_
          rotate_left
          ·intro w'
           go_simp
           with_reducible rfl
          rotate_left
          ·simp only [Act.put, List.setIfInBounds_toArray, List.set_cons_zero, List.set_cons_succ, i64_w, i32_w]
           rfl
          refine pure_ (i := 12) (N := some 12) (v := ?_) (a' := ?_) #[true, true, true, true, true, true, true, true, true, false, false, false, true, false] rfl rfl (any_of HT_.out (by kernel_rfl)) (fun _ _ _ h => h) (Or.inl ⟨by rfl, ?_⟩) ?_ ?_
          rotate_left
          ·intro w'
           go_simp
           with_reducible rfl
          rotate_left
          ·simp only [Act.put, List.setIfInBounds_toArray, List.set_cons_zero, List.set_cons_succ, i64_w, i32_w]
           rfl
          refine take_ (i := 9) (N := some 41) (v := ?_) (a' := ?_) #[true, true, true, true, true, true, true, true, true, true, false, false, true, false] rfl rfl (take_ofW HT_.out HW_.out (by kernel_rfl)) (fun _ _ _ h => h) (Or.inl ⟨by rfl, ?_⟩) hHeld ?_ ?_
          rotate_left
          ·rintro w' ⟨s0, s1, s2, s3⟩
           go_simp
           with_reducible rfl
          rotate_left
          ·simp only [Act.put, List.setIfInBounds_toArray, List.set_cons_zero, List.set_cons_succ, i64_w, i32_w]
           rfl
          refine pure_ (i := 10) (N := some 42) (v := ?_) (a' := ?_) #[true, true, true, true, true, true, true, true, true, true, true, false, true, false] rfl rfl (any_of HT_.out (by kernel_rfl)) (fun _ _ _ h => h) (Or.inl ⟨by rfl, ?_⟩) ?_ ?_
          rotate_left
          ·intro w'
           go_simp
           with_reducible rfl
          rotate_left
          ·simp only [Act.put, List.setIfInBounds_toArray, List.set_cons_zero, List.set_cons_succ, i64_w, i32_w]
           rfl
          refine pure_ (i := 11) (N := some 43) (v := ?_) (a' := ?_) #[true, true, true, true, true, true, true, true, true, true, true, true, true, false] rfl rfl (any_of HT_.out (by kernel_rfl)) (fun _ _ _ h => h) (Or.inl ⟨by rfl, ?_⟩) ?_ ?_
          rotate_left
          ·intro w'
           go_simp
           with_reducible rfl
          rotate_left
          ·simp only [Act.put, List.setIfInBounds_toArray, List.set_cons_zero, List.set_cons_succ, i64_w, i32_w]
           rfl
          refine pure_ (i := 13) (N := some 13) (v := ?_) (a' := ?_) #[true, true, true, true, true, true, true, true, true, true, true, true, true, true] rfl rfl (any_of HT_.out (by kernel_rfl)) (fun _ _ _ h => h) (Or.inl ⟨by rfl, ?_⟩) ?_ ?_
          rotate_left
          ·intro w'
           go_simp
           with_reducible rfl
          rotate_left
          ·simp only [Act.put, List.setIfInBounds_toArray, List.set_cons_zero, List.set_cons_succ, i64_w, i32_w]
           rfl
          refine done_ (done_of HT_.out (by kernel_rfl)) ?_
          have hnb72 := NB437_428.out
          have hnc72 := NB428_437.out
          have hnb73 := NB437_430.out
          have hnc73 := NB430_437.out
          have hcz74_0 : w71.cell? ⟨gb437, 0, none⟩ = some (.int .i64 t431) := (bkc BK437.out 0).trans rfl
          have hcz74_1 : w71.cell? ⟨gb437, 1, none⟩ = some (.int .i64 t432) := (bkc BK437.out 1).trans rfl
          have hcz74_2 : w71.cell? ⟨gb437, 2, none⟩ = some (.int .i64 t433) := (bkc BK437.out 2).trans rfl
          have hcz74_3 : w71.cell? ⟨gb437, 3, none⟩ = some (u438003) := (bkc BK437.out 3).trans rfl
          have hfz74_0 := bkz BK437.out 0
          have hfz74_1 := bkz BK437.out 1
          have hfz74_2 := bkz BK437.out 2
          have hfz74_3 := bkz BK437.out 3
          try go_wp2
          go_roundg k2
          case measure => have := HK1.out; have := HK2.out; omega
          case rel => exact ⟨(wrap64 (x11_2 + 1)), (x438003_2), (u438003), (by first | rfl | (simp; done) | (simp [*]; done)), H', ⟨by have := HK1.out; have := HK2.out; omega⟩, ⟨by (with_reducible repeat (first | apply Kd.S_alloc | apply Kd.S_drewN | apply Kd.S_drew)); exact HO_438003.out⟩, ⟨by (with_reducible repeat (first | refine bkN ?_ _ | refine bkd ?_ | refine bka ?_ _)); exact BK428.out⟩, ⟨by (with_reducible repeat (first | refine bkN ?_ _ | refine bkd ?_ | refine bka ?_ _)); exact BK429.out⟩, ⟨by (with_reducible repeat (first | refine bkN ?_ _ | refine bkd ?_ | refine bka ?_ _)); exact BK430.out⟩, ⟨by (with_reducible repeat (first | refine bkN ?_ _ | refine bkd ?_ | refine bka ?_ _)); exact BK437.out⟩, ⟨by repeat (first | (with_reducible first | exact HB.out | apply bwa | apply pwN | apply bwd | refine bws ?_ GE428.out | refine bws ?_ GE429.out | refine bws ?_ GE430.out | refine bws ?_ GE437.out) | exact HB.out)⟩⟩
        ·rw [if_neg c26] at H
         have c26b0 : decide (0 ≤ (wrap64 (a2 + (Int.tmod x11_2 a1_0)))) = false := decide_eq_false c26
         clear c26
         have H' := As0.mk H
         clear H
         have hnb75 := NB429_428.out
         have hnc75 := NB428_429.out
         have hnb76 := NB429_430.out
         have hnc76 := NB430_429.out
         have hnb77 := NB429_437.out
         have hnc77 := NB437_429.out
         have hcz78_0 : wr.cell? ⟨gb429, 0, none⟩ = some (.int .i64 a1_0) := (bkc BK429.out 0).trans rfl
         have hcz78_1 : wr.cell? ⟨gb429, 1, none⟩ = some (.int .i64 a1_1) := (bkc BK429.out 1).trans rfl
         have hcz78_2 : wr.cell? ⟨gb429, 2, none⟩ = some (.int .i64 a1_2) := (bkc BK429.out 2).trans rfl
         have hcz78_3 : wr.cell? ⟨gb429, 3, none⟩ = some (.slice A1_3 l1_3.length c1_3) := (bkc BK429.out 3).trans rfl
         have hfz78_0 := bkz BK429.out 0
         have hfz78_1 := bkz BK429.out 1
         have hfz78_2 := bkz BK429.out 2
         have hfz78_3 := bkz BK429.out 3
         try go_wp2
         have n0_ := As0.mk (Kd.S_drew HO_438003.out)
         have n1_ := As0.mk (bkd BK428.out)
         have n2_ := As0.mk (bkd BK429.out)
         have n3_ := As0.mk (bkd BK430.out)
         have n4_ := As0.mk (bkd BK437.out)
         have n5_ := As0.mk (bwd HB.out)
         clear HO_438003
         clear BK428
         clear BK429
         clear BK430
         clear BK437
         clear HB
         have HO_438003 := n0_
         have BK428 := n1_
         have BK429 := n2_
         have BK430 := n3_
         have BK437 := n4_
         have HB := n5_
         clear n0_ n1_ n2_ n3_ n4_ n5_
         refine start_ (n := 14) (S := fun w' => w'.cell? ⟨gb429, 0, none⟩ = some (.int .i64 a1_0) ∧ w'.cell? ⟨gb429, 1, none⟩ = some (.int .i64 a1_1) ∧ w'.cell? ⟨gb429, 2, none⟩ = some (.int .i64 a1_2) ∧ w'.cell? ⟨gb429, 3, none⟩ = some (.slice A1_3 l1_3.length c1_3)) (ds := []) #[false, false, false, false, false, false, false, false, false, false, false, false, false, false] (by kernel_rfl) rfl rfl ⟨(bkc BK429.out 0).trans rfl, (bkc BK429.out 1).trans rfl, (bkc BK429.out 2).trans rfl, (bkc BK429.out 3).trans rfl⟩ (fun hHeld => ?_); refine with_tabW r15_drawn.tab8 r15_drawn.bits8 (fun HT_ HW_ => ?_)
         generalize wr.drew = w79 at HO_438003 BK428 BK429 BK430 BK437 HB hHeld ⊢
         refine pure_ (i := 0) (N := some 32) (v := ?_) (a' := ?_) #[true, false, false, false, false, false, false, false, false, false, false, false, false, false] rfl rfl (any_of HT_.out (by kernel_rfl)) (fun _ _ _ h => h) (Or.inl ⟨by rfl, ?_⟩) ?_ ?_
         rotate_left
         ·intro w'
          go_simp
          with_reducible rfl
         rotate_left
         ·simp only [Act.put, List.setIfInBounds_toArray, List.set_cons_zero, List.set_cons_succ, i64_w, i32_w]
          rfl
         refine pure_ (i := 1) (N := some 33) (v := ?_) (a' := ?_) #[true, true, false, false, false, false, false, false, false, false, false, false, false, false] rfl rfl (any_of HT_.out (by kernel_rfl)) (fun _ _ _ h => h) (Or.inl ⟨by rfl, ?_⟩) ?_ ?_
         rotate_left
         ·intro w'
          go_simp
          with_reducible rfl
         rotate_left
         ·simp only [Act.put, List.setIfInBounds_toArray, List.set_cons_zero, List.set_cons_succ, i64_w, i32_w]
          rfl
         refine pure_ (i := 2) (N := some 34) (v := ?_) (a' := ?_) #[true, true, true, false, false, false, false, false, false, false, false, false, false, false] rfl rfl (any_of HT_.out (by kernel_rfl)) (fun _ _ _ h => h) (Or.inl ⟨by rfl, ?_⟩) ?_ ?_
         rotate_left
         ·intro w'
          go_simp
          with_reducible rfl
         rotate_left
         ·simp only [Act.put, List.setIfInBounds_toArray, List.set_cons_zero, List.set_cons_succ, i64_w, i32_w]
          rfl
         refine pure_ (i := 6) (N := some 38) (v := ?_) (a' := ?_) #[true, true, true, false, false, false, true, false, false, false, false, false, false, false] rfl rfl (any_of HT_.out (by kernel_rfl)) (fun _ _ _ h => h) (Or.inl ⟨by rfl, ?_⟩) ?_ ?_
         rotate_left
         ·intro w'
          go_simp
          with_reducible rfl
         rotate_left
         ·simp only [Act.put, List.setIfInBounds_toArray, List.set_cons_zero, List.set_cons_succ, i64_w, i32_w]
          rfl
         refine pure_ (i := 7) (N := some 39) (v := ?_) (a' := ?_) #[true, true, true, false, false, false, true, true, false, false, false, false, false, false] rfl rfl (any_of HT_.out (by kernel_rfl)) (fun _ _ _ h => h) (Or.inl ⟨by rfl, ?_⟩) ?_ ?_
         rotate_left
         ·intro w'
          go_simp
          with_reducible rfl
         rotate_left
         ·simp only [Act.put, List.setIfInBounds_toArray, List.set_cons_zero, List.set_cons_succ, i64_w, i32_w]
          rfl
         refine pure_ (i := 8) (N := some 40) (v := ?_) (a' := ?_) #[true, true, true, false, false, false, true, true, true, false, false, false, false, false] rfl rfl (any_of HT_.out (by kernel_rfl)) (fun _ _ _ h => h) (Or.inl ⟨by rfl, ?_⟩) ?_ ?_
         rotate_left
         ·intro w'
          go_simp
          with_reducible rfl
         rotate_left
         ·simp only [Act.put, List.setIfInBounds_toArray, List.set_cons_zero, List.set_cons_succ, i64_w, i32_w]
          rfl
         refine take_ (i := 3) (N := some 35) (v := ?_) (a' := ?_) #[true, true, true, true, false, false, true, true, true, false, false, false, false, false] rfl rfl (take_ofW HT_.out HW_.out (by kernel_rfl)) (fun _ _ _ h => h) (Or.inl ⟨by rfl, ?_⟩) hHeld ?_ ?_
         rotate_left
         ·rintro w' ⟨s0, s1, s2, s3⟩
          go_simp
          with_reducible rfl
         rotate_left
         ·simp only [Act.put, List.setIfInBounds_toArray, List.set_cons_zero, List.set_cons_succ, i64_w, i32_w]
          rfl
         refine pure_ (i := 4) (N := some 36) (v := ?_) (a' := ?_) #[true, true, true, true, true, false, true, true, true, false, false, false, false, false] rfl rfl (any_of HT_.out (by kernel_rfl)) (fun _ _ _ h => h) (Or.inl ⟨by rfl, ?_⟩) ?_ ?_
         rotate_left
         ·intro w'
          go_simp
          with_reducible rfl
         rotate_left
         ·simp only [Act.put, List.setIfInBounds_toArray, List.set_cons_zero, List.set_cons_succ, i64_w, i32_w]
          rfl
         refine pure_ (i := 5) (N := some 37) (v := ?_) (a' := ?_) #[true, true, true, true, true, true, true, true, true, false, false, false, false, false] rfl rfl (any_of HT_.out (by kernel_rfl)) (fun _ _ _ h => h) (Or.inl ⟨by rfl, ?_⟩) ?_ ?_
         rotate_left
         ·intro w'
          go_simp
          with_reducible rfl
         rotate_left
         ·simp only [Act.put, List.setIfInBounds_toArray, List.set_cons_zero, List.set_cons_succ, i64_w, i32_w]
          rfl
         refine pure_ (i := 12) (N := some 12) (v := ?_) (a' := ?_) #[true, true, true, true, true, true, true, true, true, false, false, false, true, false] rfl rfl (any_of HT_.out (by kernel_rfl)) (fun _ _ _ h => h) (Or.inl ⟨by rfl, ?_⟩) ?_ ?_
         rotate_left
         ·intro w'
          go_simp
          with_reducible rfl
         rotate_left
         ·simp only [Act.put, List.setIfInBounds_toArray, List.set_cons_zero, List.set_cons_succ, i64_w, i32_w]
          rfl
         refine take_ (i := 9) (N := some 41) (v := ?_) (a' := ?_) #[true, true, true, true, true, true, true, true, true, true, false, false, true, false] rfl rfl (take_ofW HT_.out HW_.out (by kernel_rfl)) (fun _ _ _ h => h) (Or.inl ⟨by rfl, ?_⟩) hHeld ?_ ?_
         rotate_left
         ·rintro w' ⟨s0, s1, s2, s3⟩
          go_simp
          with_reducible rfl
         rotate_left
         ·simp only [Act.put, List.setIfInBounds_toArray, List.set_cons_zero, List.set_cons_succ, i64_w, i32_w]
          rfl
         refine pure_ (i := 10) (N := some 42) (v := ?_) (a' := ?_) #[true, true, true, true, true, true, true, true, true, true, true, false, true, false] rfl rfl (any_of HT_.out (by kernel_rfl)) (fun _ _ _ h => h) (Or.inl ⟨by rfl, ?_⟩) ?_ ?_
         rotate_left
         ·intro w'
          go_simp
          with_reducible rfl
         rotate_left
         ·simp only [Act.put, List.setIfInBounds_toArray, List.set_cons_zero, List.set_cons_succ, i64_w, i32_w]
          rfl
         refine pure_ (i := 11) (N := some 43) (v := ?_) (a' := ?_) #[true, true, true, true, true, true, true, true, true, true, true, true, true, false] rfl rfl (any_of HT_.out (by kernel_rfl)) (fun _ _ _ h => h) (Or.inl ⟨by rfl, ?_⟩) ?_ ?_
         rotate_left
         ·intro w'
          go_simp
          with_reducible rfl
         rotate_left
         ·simp only [Act.put, List.setIfInBounds_toArray, List.set_cons_zero, List.set_cons_succ, i64_w, i32_w]
          rfl
         refine pure_ (i := 13) (N := some 13) (v := ?_) (a' := ?_) #[true, true, true, true, true, true, true, true, true, true, true, true, true, true] rfl rfl (any_of HT_.out (by kernel_rfl)) (fun _ _ _ h => h) (Or.inl ⟨by rfl, ?_⟩) ?_ ?_
         rotate_left
         ·intro w'
          go_simp
          with_reducible rfl
         rotate_left
         ·simp only [Act.put, List.setIfInBounds_toArray, List.set_cons_zero, List.set_cons_succ, i64_w, i32_w]
          rfl
         refine done_ (done_of HT_.out (by kernel_rfl)) ?_
         try go_wp2
         go_roundg k2
         case measure => have := HK1.out; have := HK2.out; omega
         case rel => exact ⟨(wrap64 (x11_2 + 1)), (x438003_2), (u438003), (by first | rfl | (simp; done) | (simp [*]; done)), H', ⟨by have := HK1.out; have := HK2.out; omega⟩, ⟨by (with_reducible repeat (first | apply Kd.S_alloc | apply Kd.S_drewN | apply Kd.S_drew)); exact HO_438003.out⟩, ⟨by (with_reducible repeat (first | refine bkN ?_ _ | refine bkd ?_ | refine bka ?_ _)); exact BK428.out⟩, ⟨by (with_reducible repeat (first | refine bkN ?_ _ | refine bkd ?_ | refine bka ?_ _)); exact BK429.out⟩, ⟨by (with_reducible repeat (first | refine bkN ?_ _ | refine bkd ?_ | refine bka ?_ _)); exact BK430.out⟩, ⟨by (with_reducible repeat (first | refine bkN ?_ _ | refine bkd ?_ | refine bka ?_ _)); exact BK437.out⟩, ⟨by repeat (first | (with_reducible first | exact HB.out | apply bwa | apply pwN | apply bwd | refine bws ?_ GE428.out | refine bws ?_ GE429.out | refine bws ?_ GE430.out | refine bws ?_ GE437.out) | exact HB.out)⟩⟩
      ·rw [if_neg c24] at H
       have c24b0 : decide (x11_2 < (wrap64 (a1_0 * a1_1))) = false := decide_eq_false c24
       clear c24
       have H' := As0.mk H
       clear H
       have hnb80 := NB429_428.out
       have hnc80 := NB428_429.out
       have hnb81 := NB429_430.out
       have hnc81 := NB430_429.out
       have hnb82 := NB429_437.out
       have hnc82 := NB437_429.out
       have hcz83_0 : wr.cell? ⟨gb429, 0, none⟩ = some (.int .i64 a1_0) := (bkc BK429.out 0).trans rfl
       have hcz83_1 : wr.cell? ⟨gb429, 1, none⟩ = some (.int .i64 a1_1) := (bkc BK429.out 1).trans rfl
       have hcz83_2 : wr.cell? ⟨gb429, 2, none⟩ = some (.int .i64 a1_2) := (bkc BK429.out 2).trans rfl
       have hcz83_3 : wr.cell? ⟨gb429, 3, none⟩ = some (.slice A1_3 l1_3.length c1_3) := (bkc BK429.out 3).trans rfl
       have hfz83_0 := bkz BK429.out 0
       have hfz83_1 := bkz BK429.out 1
       have hfz83_2 := bkz BK429.out 2
       have hfz83_3 := bkz BK429.out 3
       go_wp2
       go_roundg k2
       case measure => have := HK1.out; have := HK2.out; omega
       case rel => exact ⟨(wrap64 (x10_1 + 1)), (x438003_2), (u438003), (by first | rfl | (simp; done) | (simp [*]; done)), H', ⟨by have := HK1.out; have := HK2.out; omega⟩, ⟨by (with_reducible repeat (first | apply Kd.S_alloc | apply Kd.S_drewN | apply Kd.S_drew)); exact HO_438003.out⟩, ⟨by (with_reducible repeat (first | refine bkN ?_ _ | refine bkd ?_ | refine bka ?_ _)); exact BK428.out⟩, ⟨by (with_reducible repeat (first | refine bkN ?_ _ | refine bkd ?_ | refine bka ?_ _)); exact BK429.out⟩, ⟨by (with_reducible repeat (first | refine bkN ?_ _ | refine bkd ?_ | refine bka ?_ _)); exact BK430.out⟩, ⟨by (with_reducible repeat (first | refine bkN ?_ _ | refine bkd ?_ | refine bka ?_ _)); exact BK437.out⟩, ⟨by repeat (first | (with_reducible first | exact HB.out | apply bwa | apply pwN | apply bwd | refine bws ?_ GE428.out | refine bws ?_ GE429.out | refine bws ?_ GE430.out | refine bws ?_ GE437.out) | exact HB.out)⟩⟩
   ·rw [if_neg c19] at H
    have c19b0 : decide (x10_1 < (l1_3.length : Int)) = false := decide_eq_false c19
    clear c19
    simp only [Option.some.injEq, Prod.mk.injEq] at H
    obtain ⟨rfl, rfl, rfl, rfl⟩ := H
    have hnb84 := NB429_428.out
    have hnc84 := NB428_429.out
    have hnb85 := NB429_430.out
    have hnc85 := NB430_429.out
    have hnb86 := NB429_437.out
    have hnc86 := NB437_429.out
    have hcz87_0 : wr.cell? ⟨gb429, 0, none⟩ = some (.int .i64 a1_0) := (bkc BK429.out 0).trans rfl
    have hcz87_1 : wr.cell? ⟨gb429, 1, none⟩ = some (.int .i64 a1_1) := (bkc BK429.out 1).trans rfl
    have hcz87_2 : wr.cell? ⟨gb429, 2, none⟩ = some (.int .i64 a1_2) := (bkc BK429.out 2).trans rfl
    have hcz87_3 : wr.cell? ⟨gb429, 3, none⟩ = some (.slice A1_3 l1_3.length c1_3) := (bkc BK429.out 3).trans rfl
    have hfz87_0 := bkz BK429.out 0
    have hfz87_1 := bkz BK429.out 1
    have hfz87_2 := bkz BK429.out 2
    have hfz87_3 := bkz BK429.out 3
    have hnb88 := NB437_428.out
    have hnc88 := NB428_437.out
    have hnb89 := NB437_430.out
    have hnc89 := NB430_437.out
    have hcz90_0 : wr.cell? ⟨gb437, 0, none⟩ = some (.int .i64 t431) := (bkc BK437.out 0).trans rfl
    have hcz90_1 : wr.cell? ⟨gb437, 1, none⟩ = some (.int .i64 t432) := (bkc BK437.out 1).trans rfl
    have hcz90_2 : wr.cell? ⟨gb437, 2, none⟩ = some (.int .i64 t433) := (bkc BK437.out 2).trans rfl
    have hcz90_3 : wr.cell? ⟨gb437, 3, none⟩ = some (u438003) := (bkc BK437.out 3).trans rfl
    have hfz90_0 := bkz BK437.out 0
    have hfz90_1 := bkz BK437.out 1
    have hfz90_2 := bkz BK437.out 2
    have hfz90_3 := bkz BK437.out 3
    have hnb91 := NB430_428.out
    have hnc91 := NB428_430.out
    have hcz92_0 : wr.cell? ⟨gb430, 0, none⟩ = some (.int .i64 0) := (bkc BK430.out 0).trans rfl
    have hcz92_1 : wr.cell? ⟨gb430, 1, none⟩ = some (.int .i64 0) := (bkc BK430.out 1).trans rfl
    have hcz92_2 : wr.cell? ⟨gb430, 2, none⟩ = some (.int .i64 0) := (bkc BK430.out 2).trans rfl
    have hcz92_3 : wr.cell? ⟨gb430, 3, none⟩ = some (.slice none 0 0) := (bkc BK430.out 3).trans rfl
    have hfz92_0 := bkz BK430.out 0
    have hfz92_1 := bkz BK430.out 1
    have hfz92_2 := bkz BK430.out 2
    have hfz92_3 := bkz BK430.out 3
    obtain ⟨Ao93, co93, eo93⟩ := Kd.S_slice HO_438003.out
    subst eo93
    go_wp2
    refine bodyPost_ret (results_cell_row rfl _ _ gb430 24 #[.int .i64 t431, .int .i64 t432, .int .i64 t433, .slice Ao93 x438003_1.length co93] (0, 0) _ rfl (by (with_reducible repeat (first | refine bkN ?_ _ | refine bkd ?_ | refine bka ?_ _)); refine blk_put (cs := #[.int .i64 t431, .int .i64 t432, .int .i64 t433, .slice none 0 0]) ?_ 3 _ rfl; (with_reducible repeat (first | refine bkN ?_ _ | refine bkd ?_ | refine bka ?_ _)); refine blk_put (cs := #[.int .i64 t431, .int .i64 t432, .int .i64 0, .slice none 0 0]) ?_ 2 _ rfl; (with_reducible repeat (first | refine bkN ?_ _ | refine bkd ?_ | refine bka ?_ _)); refine blk_put (cs := #[.int .i64 t431, .int .i64 0, .int .i64 0, .slice none 0 0]) ?_ 1 _ rfl; (with_reducible repeat (first | refine bkN ?_ _ | refine bkd ?_ | refine bka ?_ _)); refine blk_put (cs := #[.int .i64 0, .int .i64 0, .int .i64 0, .slice none 0 0]) ?_ 0 _ rfl; (with_reducible repeat (first | refine bkN ?_ _ | refine bkd ?_ | refine bka ?_ _)); exact BK430.out) Tryz.underlying24 rfl (by kernel_rfl)) rfl ?_
    exact ⟨_, by first | rfl | (simp [errW_none, errW_some] <;> rfl) | (simp [*, errW_none, errW_some] <;> rfl), by (with_reducible repeat (first | apply Kd.S_alloc | apply Kd.S_drewN | apply Kd.S_drew)); exact Kd.S_mono (Kd.S_far (p := ⟨gb430, 3, none⟩) (Kd.S_far (p := ⟨gb430, 2, none⟩) (Kd.S_far (p := ⟨gb430, 1, none⟩) (Kd.S_far (p := ⟨gb430, 0, none⟩) (Kd.S_types HO_438003.out BK430.out (by decide)) (fun _ hk => hk.2) (.int .i64 t431)) (fun _ hk => hk.2) (.int .i64 t432)) (fun _ hk => hk.2) (.int .i64 t433)) (fun _ hk => hk.2) (.slice Ao93 x438003_1.length co93)) (fun _ hk => trivial), by repeat (first | (with_reducible first | exact HB.out | apply bwa | apply pwN | apply bwd | refine bws ?_ GE428.out | refine bws ?_ GE429.out | refine bws ?_ GE430.out | refine bws ?_ GE437.out) | exact HB.out)⟩
theorem w64_id (a : Int) (h1 : -9000000000000000000 ≤ a) (h2 : a ≤ 9000000000000000000) : wrap64 a = a := by unfold wrap64; omega
section
variable (cw ch cb x y mb : Int) (W H : Nat) (ps ms : List (List Int))
structure Draws : Prop where
 b : 1 ≤ cw ∧ cw ≤ 1000 ∧ 1 ≤ ch ∧ ch ≤ 1000 ∧ 1 ≤ W ∧ W ≤ 1000 ∧ 1 ≤ H ∧ H ≤ 1000 ∧ -1000000 ≤ x ∧ x ≤ 1000000 ∧ -1000000 ≤ y ∧ y ≤ 1000000
 len : ms.length = ps.length ∧ ps.length ≤ 1000
 rows : ∀ r ∈ ps, r.length = cw.toNat * ch.toNat
 rows2 : ∀ r ∈ ms, r.length = W * H
variable (h : Draws cw ch x y W H ps ms)
include h in
theorem drawn_step (p t : Nat) (hp : p < ps.length) (ht : t < W * H) (k : Nat) :
  r15_drawn.l1 (k + 1) x y p t (W : Int) (H : Int) mb ms cw ch cb (pg cw ch x y W (W * H) ps ms p t) = r15_drawn.l1 k x y p ((t + 1 : Nat) : Int) (W : Int) (H : Int) mb ms cw ch cb (pg cw ch x y W (W * H) ps ms p (t + 1)) := by
 have hb := h.b
 have hWH : W * H ≤ 1000 * 1000 := Nat.mul_le_mul (by omega) (by omega)
 have hCC : cw.toNat * ch.toNat ≤ 1000 * 1000 := Nat.mul_le_mul (by omega) (by omega)
 obtain ⟨ci, hci⟩ : ∃ i, i = t % W := ⟨_, rfl⟩
 obtain ⟨cj, hcj⟩ : ∃ j, j = t / W := ⟨_, rfl⟩
 have hi : ci < W := by rw [hci]; exact Nat.mod_lt _ (by omega)
 have hj : cj < H := by rw [hcj, Nat.div_lt_iff_lt_mul (by omega), Nat.mul_comm]; exact ht
 obtain ⟨lp, hlp⟩ : ∃ l, ps[p]? = some l := ⟨_, List.getElem?_eq_getElem hp⟩
 obtain ⟨lm, hlm⟩ : ∃ l, ms[p]? = some l := ⟨_, List.getElem?_eq_getElem (by have := h.len; omega)⟩
 have hlpl := h.rows _ (List.mem_of_getElem? hlp)
 have hlml := h.rows2 _ (List.mem_of_getElem? hlm)
 have hrow := pg_row cw ch x y W (W * H) ps ms p t lp lm hlp hlm
 have hrl := pt_length cw ch x y W lp lm t
 have em : As0 (Int.tmod (t : Int) (W : Int) = (ci : Int)) := ⟨by rw [Int.tmod_eq_emod_of_nonneg (Int.natCast_nonneg _), ← Int.natCast_emod, hci]⟩
 have ed : As0 (Int.tdiv (t : Int) (W : Int) = (cj : Int)) := ⟨by rw [Int.tdiv_eq_ediv_of_nonneg (Int.natCast_nonneg _), ← Int.natCast_ediv, hcj]⟩
 have hpx : As0 (pixOk cw ch x y W t = (btw (x + (ci : Int)) 0 (cw - 1) && btw (y + (cj : Int)) 0 (ch - 1))) := ⟨by rw [hci, hcj]; rfl⟩
 have hpa : As0 (pixAt cw x y W t = ((y + (cj : Int)) * cw + x + (ci : Int)).toNat) := ⟨by rw [hci, hcj]; rfl⟩
 clear hci hcj
 have w1 : As0 (wrap64 ((W : Int) * (H : Int)) = ((W * H : Nat) : Int)) := ⟨by rw [← Int.natCast_mul]; exact w64_id _ (by omega) (by omega)⟩
 have w2 : As0 (wrap64 (cj : Int) = (cj : Int)) := ⟨w64_id _ (by omega) (by omega)⟩
 have w3 : As0 (wrap64 (x + (ci : Int)) = x + (ci : Int)) := ⟨w64_id _ (by omega) (by omega)⟩
 have w4 : As0 (wrap64 (y + (cj : Int)) = y + (cj : Int)) := ⟨w64_id _ (by omega) (by omega)⟩
 have w5 : As0 (wrap64 ((t : Int) + 1) = ((t + 1 : Nat) : Int)) := ⟨by rw [w64_id _ (by omega) (by omega)]; rfl⟩
 rw [r15_drawn.l1, w1.out, if_pos (by omega), if_neg (by omega), em.out, ed.out, w2.out, w3.out, w4.out, w5.out]
 obtain ⟨u, hu⟩ : ∃ u, u = x + (ci : Int) := ⟨_, rfl⟩
 obtain ⟨v, hv⟩ : ∃ v, v = y + (cj : Int) := ⟨_, rfl⟩
 rw [← hu, ← hv] at hpx
 have hpb : As0 (pixAt cw x y W t = (v * cw + u).toNat) := ⟨by rw [hpa.out, ← hv, Int.add_assoc, ← hu]⟩
 rw [← hu, ← hv]
 by_cases hok : u ≥ 0 ∧ u < cw ∧ v ≥ 0 ∧ v < ch
 ·obtain ⟨c1, c2, c3, c4⟩ := hok
  have hyes : As0 (pixOk cw ch x y W t = true) := ⟨by
   rw [hpx.out]
   simp only [btw, Bool.and_eq_true, decide_eq_true_eq]
   omega⟩
  have b1 : v.toNat * cw.toNat + cw.toNat ≤ cw.toNat * ch.toNat := by rw [← Nat.succ_mul, Nat.mul_comm cw.toNat ch.toNat]; exact Nat.mul_le_mul_right _ (by omega)
  have e1 : As0 (v * cw = ((v.toNat * cw.toNat : Nat) : Int)) := ⟨by rw [Int.natCast_mul]; congr 1 <;> omega⟩
  have w6 : As0 (wrap64 (v * cw) = ((v.toNat * cw.toNat : Nat) : Int)) := ⟨by rw [e1.out]; exact w64_id _ (by omega) (by omega)⟩
  have w7 : As0 (wrap64 (((v.toNat * cw.toNat : Nat) : Int) + u) = ((v.toNat * cw.toNat + u.toNat : Nat) : Int)) := ⟨by rw [w64_id _ (by omega) (by omega)]; omega⟩
  have hat : As0 (pixAt cw x y W t = v.toNat * cw.toNat + u.toNat) := ⟨by rw [hpb.out, e1.out]; omega⟩
  rw [if_pos c1, if_pos c2, if_pos c3, if_pos c4, if_pos (by omega), if_pos (by rw [pg_length]; omega), if_pos (by have := h.len; omega), if_pos (by omega), rdL1_at ms p lm hlm, if_pos (by omega), w6.out, w7.out, if_pos (by omega), rdL1_at _ p _ hrow, if_pos (by omega)]
  rw [Int.toNat_natCast, Int.toNat_natCast]
  rw [pg_set cw ch x y W (W * H) ps ms p t lp lm hlp hlm]
  conv => rhs; unfold pt
  rw [if_pos hyes.out, hat.out]
  rfl
 ·have hno : pixOk cw ch x y W t = false := by
   rw [hpx.out]
   simp only [btw, Bool.and_eq_false_iff, decide_eq_false_iff_not]
   omega
  rw [← pg_skip _ _ _ _ _ _ _ _ _ _ hno]
  by_cases c1 : u ≥ 0
  ·rw [if_pos c1]
   by_cases c2 : u < cw
   ·rw [if_pos c2]
    by_cases c3 : v ≥ 0
    ·rw [if_pos c3, if_neg (fun c4 => hok ⟨c1, c2, c3, c4⟩)]
    ·rw [if_neg c3]
   ·rw [if_neg c2]
  ·rw [if_neg c1]
include h in
theorem drawn_l1 (p : Nat) (hp : p < ps.length) (R : Option (Int × Int × Int × List (List Int))) (hR : Ev fun k => r15_drawn.l0 k x y ((p + 1 : Nat) : Int) (W : Int) (H : Int) mb ms cw ch cb (pg cw ch x y W (W * H) ps ms (p + 1) 0) = R) :
  ∀ (n t : Nat), t + n = W * H → Ev fun k => r15_drawn.l1 k x y p t (W : Int) (H : Int) mb ms cw ch cb (pg cw ch x y W (W * H) ps ms p t) = R := by
 have hb := h.b
 have hWH : W * H ≤ 1000 * 1000 := Nat.mul_le_mul (by omega) (by omega)
 have w1 : wrap64 ((W : Int) * (H : Int)) = ((W * H : Nat) : Int) := by rw [← Int.natCast_mul]; unfold wrap64; omega
 intro n
 induction n with
 | zero =>
  intro t ht
  have ht : t = W * H := by omega
  subst ht
  refine Ev.step (fun k => ?_) hR
  rw [r15_drawn.l1, w1, if_neg (by omega), w64_succ p (by have := h.len; omega), pg_next]
 | succ n ih =>
  intro t ht
  exact Ev.step (fun k => drawn_step cw ch cb x y mb W H ps ms h p t hp (by omega) k) (ih (t + 1) (by omega))
include h in
theorem drawn_l0 : ∀ (n p : Nat), p + n = ps.length → Ev fun k => r15_drawn.l0 k x y p (W : Int) (H : Int) mb ms cw ch cb (pg cw ch x y W (W * H) ps ms p 0) = some (cw, ch, cb, putP cw ch x y W (W * H) ps ms) := by
 intro n
 induction n with
 | zero =>
  intro p hp
  refine Ev.const fun k => ?_
  rw [r15_drawn.l0, if_neg (by have := h.len; omega), pg_last _ _ _ _ _ _ _ _ _ (by omega)]
 | succ n ih =>
  intro p hp
  have := drawn_l1 cw ch cb x y mb W H ps ms h p (by omega) _ (ih (p + 1) (by omega)) (W * H) 0 (by omega)
  refine Ev.step (fun k => ?_) this
  rw [r15_drawn.l0, if_pos (by have := h.len; omega)]
  rfl
include h in
theorem drawn_is : Ev fun k => r15_drawn.f k cw ch cb ps (W : Int) (H : Int) mb ms x y = some (cw, ch, cb, putP cw ch x y W (W * H) ps ms) := by
 have hb := h.b
 have hCC : cw.toNat * ch.toNat ≤ 1000 * 1000 := Nat.mul_le_mul (by omega) (by omega)
 have h1 := copy_image cw ch cb ps h.len.2 (fun r hr => by have := h.rows r hr; omega)
 have h2 := drawn_l0 cw ch cb x y mb W H ps ms h ps.length 0 (by omega)
 rw [pg_zero] at h2
 refine Ev.bind h1 ?_
 exact h2
end
def tlN (W H c np : Nat) (l : List S24) : Nat → List (List Int)
 | 0 => List.replicate np (List.replicate (W * H) 0)
 | i + 1 => putP (W : Int) (H : Int) (((i % c) * (rd_T24 l i).f0.toNat : Nat) : Int) (((i / c) * (rd_T24 l i).f1.toNat : Nat) : Int) (rd_T24 l i).f0.toNat ((rd_T24 l i).f0.toNat * (rd_T24 l i).f1.toNat) (tlN W H c np l i) (rd_T24 l i).f3
theorem putP_length (cw ch x y : Int) (mw N : Nat) (ps ms : List (List Int)) : (putP cw ch x y mw N ps ms).length = ps.length := by simp [putP]
theorem putP_rows (cw ch x y : Int) (mw N : Nat) (ps ms : List (List Int)) (n : Nat) (h : ∀ r ∈ ps, r.length = n) : ∀ r ∈ putP cw ch x y mw N ps ms, r.length = n := by
 intro r hr
 unfold putP at hr
 obtain ⟨j, hj, rfl⟩ := List.mem_map.1 hr
 rw [pt_length]
 have hjl := List.mem_range.1 hj
 rw [List.getD_eq_getElem?_getD, List.getElem?_eq_getElem hjl]
 exact h _ (List.getElem_mem hjl)
theorem tlN_ok (W H c np : Nat) (l : List S24) : ∀ i, (tlN W H c np l i).length = np ∧ ∀ r ∈ tlN W H c np l i, r.length = W * H := by
 intro i
 induction i with
 | zero => exact ⟨by simp [tlN], fun r hr => by rw [(List.mem_replicate.1 hr).2, List.length_replicate]⟩
 | succ i ih => exact ⟨by unfold tlN; rw [putP_length]; exact ih.1, by unfold tlN; exact putP_rows _ _ _ _ _ _ _ _ _ ih.2⟩
def tileOk (l : List S24) (cols wide high : Int) : Bool := decide (0 < l.length ∧ l.length ≤ 1000 ∧ 1 ≤ cols ∧ cols ≤ 1000 ∧ 1 ≤ wide ∧ wide ≤ 1000 ∧ 1 ≤ high ∧ high ≤ 1000 ∧ 0 < (rd_T24 l 0).f3.length ∧ (rd_T24 l 0).f3.length ≤ 1000) &&
 l.all fun x => decide (1 ≤ x.f0 ∧ x.f0 ≤ 1000 ∧ 1 ≤ x.f1 ∧ x.f1 ≤ 1000 ∧ x.f3.length = (rd_T24 l 0).f3.length) && x.f3.all fun r => decide (r.length = x.f0.toNat * x.f1.toNat)
theorem tileOk_each {l : List S24} {cols wide high : Int} (h : tileOk l cols wide high = true) : (0 < l.length ∧ l.length ≤ 1000 ∧ 1 ≤ cols ∧ cols ≤ 1000 ∧ 1 ≤ wide ∧ wide ≤ 1000 ∧ 1 ≤ high ∧ high ≤ 1000 ∧ 0 < (rd_T24 l 0).f3.length ∧ (rd_T24 l 0).f3.length ≤ 1000) ∧
  ∀ x ∈ l, (1 ≤ x.f0 ∧ x.f0 ≤ 1000 ∧ 1 ≤ x.f1 ∧ x.f1 ≤ 1000 ∧ x.f3.length = (rd_T24 l 0).f3.length) ∧ ∀ r ∈ x.f3, r.length = x.f0.toNat * x.f1.toNat := by
 simp only [tileOk, Bool.and_eq_true, decide_eq_true_eq, List.all_eq_true] at h
 exact ⟨h.1, fun x hx => ⟨(h.2 x hx).1, (h.2 x hx).2⟩⟩
def item_tiled.f (l0 : List S24) (a1 a2 a3 : Int) : Option (Int × Int × Int × List (List Int)) :=
 if tileOk l0 a1 a2 a3 = true then some (a2, a3, (rd_T24 l0 0).f2, tlN a2.toNat a3.toNat a1.toNat (rd_T24 l0 0).f3.length l0 l0.length) else none
def item_tiled.T1 : Bool × List (List Nat × List Nat) := (true, [([], []), ([], []), ([], []), ([2], [2]), ([3], [3]), ([4], [4]), ([], []), ([6], [6]), ([7], [7]), ([8], [8]), ([9], [9]), ([0, 1, 5, 10], [0, 1, 5, 10]), ([], []), ([12, 11, 11, 0, 1, 2, 3, 4, 5, 6, 7, 8, 9, 10, 11, 12], [11, 12])])
def item_tiled.B1 : List Nat := [0, 0, 0, 4, 12, 28, 0, 64, 192, 448, 960, 2047, 0, 8191]
theorem item_tiled.tab1 : rtab .any (opsOf Tryz.f73 1) = item_tiled.T1 := by kernel_rfl
theorem item_tiled.bits1 : waitsOk item_tiled.T1.2 item_tiled.B1 = true := by kernel_rfl
def item_tiled.T5 : Bool × List (List Nat × List Nat) := (true, [([], []), ([], []), ([], []), ([], []), ([2, 3], [2, 3]), ([], []), ([5], [5]), ([4, 6], [4, 6]), ([], []), ([], []), ([8, 9], [8, 9]), ([], []), ([11], [11]), ([10, 12], [10, 12]), ([0, 1, 7, 13], [0, 1, 7, 13])])
def item_tiled.B5 : List Nat := [0, 0, 0, 0, 12, 0, 32, 124, 0, 0, 768, 0, 2048, 7936, 16383]
theorem item_tiled.tab5 : rtab .any (opsOf Tryz.f73 5) = item_tiled.T5 := by kernel_rfl
theorem item_tiled.bits5 : waitsOk item_tiled.T5.2 item_tiled.B5 = true := by kernel_rfl
theorem tl0_ (W H c np : Nat) (l : List S24) : tlN W H c np l 0 = List.replicate np (List.replicate (W * H) 0) := rfl
theorem w64_idn (a : Nat) (h : a ≤ 9000000000000000000) : wrap64 (a : Int) = (a : Int) := by unfold wrap64; omega
set_option maxHeartbeats 32000000 in
set_option maxRecDepth 100000 in
theorem item_tiled.calls (A0 : Option Addr) (c0 : Nat) (l0 : List S24) (a1 : Int) (a2 : Int) (a3 : Int) (r1 : Int) (r2 : Int) (r3 : Int) (r4 : List (List Int)) (w : World) (hr0 : Kd.C k24 w A0 l0.length l0) (hc0 : l0.length ≤ c0) (h : item_tiled.f l0 a1 a2 a3 = some (r1, r2, r3, r4)) :
  Calls Tryz.prog 73 #[.slice A0 l0.length c0, .int .i64 a1, .int .i64 a2, .int .i64 a3] w fun e w' => ∃ v3_ : Value, e = .returned (.agg #[.int .i64 r1, .int .i64 r2, .int .i64 r3, v3_]) ∧ Kd.S (Kd.slice 3 (Kd.int .i64)) 39 w' w.heap.size (fun _ => True) v3_ r4 ∧ Below w.heap.size w w' := by
 unfold item_tiled.f at h
 split at h
 case isFalse => cases h
 case isTrue hk =>
 obtain ⟨l, rfl⟩ : ∃ v, v = l0 := ⟨_, rfl⟩
 obtain ⟨cols, rfl⟩ : ∃ v, v = a1 := ⟨_, rfl⟩
 obtain ⟨wide, rfl⟩ : ∃ v, v = a2 := ⟨_, rfl⟩
 obtain ⟨high, rfl⟩ : ∃ v, v = a3 := ⟨_, rfl⟩
 obtain ⟨hg, heach⟩ := tileOk_each hk
 obtain ⟨ad, A3, c3, rfl, hx0, hx1, hx2, hx3, hl3, hC3⟩ := at_T24 hr0 0 (Int.le_refl 0) (by omega)
 obtain ⟨np, hnp⟩ : ∃ n, n = (rd_T24 l 0).f3.length := ⟨_, rfl⟩
 obtain ⟨bits, hbits⟩ : ∃ b, b = (rd_T24 l 0).f2 := ⟨_, rfl⟩
 rw [← hnp] at hg heach hx3 h
 rw [← hbits] at hx2 h
 have HR := As0.mk hr0
 have HG := As0.mk hg
 have HE := As0.mk heach
 have HF := As0.mk (Option.some.inj h)
 have h2 : w.cell? ⟨ad.block, ad.off + 2, none⟩ = some (.int .i64 bits) := by simpa [Addr.add] using hx2
 have h3 : w.cell? ⟨ad.block, ad.off + 3, none⟩ = some (.slice A3 np c3) := by simpa [Addr.add] using hx3
 have H2 := As0.mk h2
 have H3 := As0.mk h3
 clear hx0 hx1 hx2 hx3 hl3 hC3 hr0 hc0 h hk heach hnp hbits h2 h3
 have hBL := blank_is wide high bits (by omega) (by omega) np (by omega)
 have HBL := As0.mk hBL
 have zl : 0 < l.length := hg.1
 have zl' : (0 : Int) < (l.length : Int) := by omega
 have cz : (cols == 0) = false := beq_eq_false_iff_ne.2 (by omega)
 have cz' : cols ≠ 0 := by omega
 have CZ := As0.mk (And.intro cz cz')
 clear hg hBL cz cz'
 replace zl := eq_true zl
 replace zl' := eq_true zl'
 have hu24 := Tryz.underlying24
 have hu49 := Tryz.underlying49
 have hu39 := Tryz.underlying39
 have hu22 := Tryz.underlying22
 go_enter Tryz.func73, Tryz.ntmps73
 go_wp2_with (first | ((with_reducible refine gdt (N := 8) rfl ?_); refine bxe ?hg (N := 8) ?hd (cs := #[.int .i64 0, .int .i64 0, .int .i64 0, .slice none 0 0]) (t := 24) ?hr ?_; (case hd => rfl); (case hg => rfl); (case hr => first | (go_simp; done) | (go_simp; rfl)); intro g8 hgg8 w8 hboxg8 hbg8; have BKg8 := As0.mk hboxg8; have GE8 : As0 (w.heap.size ≤ g8) := ⟨Nat.le_of_eq hgg8.symm⟩; have HB8 := As0.mk hbg8; clear hboxg8 hbg8 hgg8))
 have k2 : w8.cell? ⟨ad.block, ad.off + 2, none⟩ = some (.int .i64 bits) := (HB8.out.cell (World.block_lt_of_cell? w _ H2.out)).trans H2.out
 have k3 : w8.cell? ⟨ad.block, ad.off + 3, none⟩ = some (.slice A3 np c3) := (HB8.out.cell (World.block_lt_of_cell? w _ H3.out)).trans H3.out
 refine start_ (n := 14) (S := fun w' => w'.cell? ⟨ad.block, ad.off + 2, none⟩ = some (.int .i64 bits) ∧ w'.cell? ⟨ad.block, ad.off + 3, none⟩ = some (.slice A3 np c3)) (ds := [13]) #[false, false, false, false, false, false, false, false, false, false, false, false, false, false] (by kernel_rfl) rfl rfl ⟨k2, k3⟩ (fun hHeld => ?_); refine with_tabW item_tiled.tab1 item_tiled.bits1 (fun HT_ HW_ => ?_)
 replace BKg8 := As0.mk (bkd BKg8.out)
 replace HB8 := As0.mk (bwd HB8.out)
 clear k2 k3
 generalize w8.drew = wd at *
 refine pure_ (i := 0) (N := some 12) (v := ?_) (a' := ?_) #[true, false, false, false, false, false, false, false, false, false, false, false, false, false] rfl rfl (any_of HT_.out (by kernel_rfl)) (fun _ _ _ h => h) (Or.inl ⟨by rfl, ?_⟩) ?_ ?_
 rotate_left
 ·intro w'
  go_simp
  with_reducible rfl
 rotate_left
 ·simp only [Act.put, List.setIfInBounds_toArray, List.set_cons_zero, List.set_cons_succ, i64_w, i32_w]
  rfl
 refine pure_ (i := 1) (N := some 13) (v := ?_) (a' := ?_) #[true, true, false, false, false, false, false, false, false, false, false, false, false, false] rfl rfl (any_of HT_.out (by kernel_rfl)) (fun _ _ _ h => h) (Or.inl ⟨by rfl, ?_⟩) ?_ ?_
 rotate_left
 ·intro w'
  go_simp
  with_reducible rfl
 rotate_left
 ·simp only [Act.put, List.setIfInBounds_toArray, List.set_cons_zero, List.set_cons_succ, i64_w, i32_w]
  rfl
 refine pure_ (i := 2) (N := some 14) (v := ?_) (a' := ?_) #[true, true, true, false, false, false, false, false, false, false, false, false, false, false] rfl rfl (any_of HT_.out (by kernel_rfl)) (fun _ _ _ h => h) (Or.inl ⟨by rfl, ?_⟩) ?_ ?_
 rotate_left
 ·intro w'
  go_simp
  with_reducible rfl
 rotate_left
 ·simp only [Act.put, List.setIfInBounds_toArray, List.set_cons_zero, List.set_cons_succ, i64_w, i32_w]
  rfl
 refine pure_ (i := 3) (N := some 15) (v := ?_) (a' := ?_) #[true, true, true, true, false, false, false, false, false, false, false, false, false, false] rfl rfl (any_of HT_.out (by kernel_rfl)) (fun _ _ _ h => h) (Or.inl ⟨by rfl, ?_⟩) ?_ ?_
 rotate_left
 ·intro w'
  go_simp
  with_reducible rfl
 rotate_left
 ·simp only [Act.put, List.setIfInBounds_toArray, List.set_cons_zero, List.set_cons_succ, i64_w, i32_w]
  rfl
 refine pure_ (i := 4) (N := some 16) (v := ?_) (a' := ?_) #[true, true, true, true, true, false, false, false, false, false, false, false, false, false] rfl rfl (any_of HT_.out (by kernel_rfl)) (fun _ _ _ h => h) (Or.inl ⟨by rfl, ?_⟩) ?_ ?_
 rotate_left
 ·intro w'
  go_simp
  with_reducible rfl
 rotate_left
 ·simp only [Act.put, List.setIfInBounds_toArray, List.set_cons_zero, List.set_cons_succ, i64_w, i32_w]
  rfl
 refine pure_ (i := 6) (N := some 18) (v := ?_) (a' := ?_) #[true, true, true, true, true, false, true, false, false, false, false, false, false, false] rfl rfl (any_of HT_.out (by kernel_rfl)) (fun _ _ _ h => h) (Or.inl ⟨by rfl, ?_⟩) ?_ ?_
 rotate_left
 ·intro w'
  go_simp
  with_reducible rfl
 rotate_left
 ·simp only [Act.put, List.setIfInBounds_toArray, List.set_cons_zero, List.set_cons_succ, i64_w, i32_w]
  rfl
 refine pure_ (i := 7) (N := some 19) (v := ?_) (a' := ?_) #[true, true, true, true, true, false, true, true, false, false, false, false, false, false] rfl rfl (any_of HT_.out (by kernel_rfl)) (fun _ _ _ h => h) (Or.inl ⟨by rfl, ?_⟩) ?_ ?_
 rotate_left
 ·intro w'
  go_simp
  with_reducible rfl
 rotate_left
 ·simp only [Act.put, List.setIfInBounds_toArray, List.set_cons_zero, List.set_cons_succ, i64_w, i32_w]
  rfl
 refine pure_ (i := 8) (N := some 20) (v := ?_) (a' := ?_) #[true, true, true, true, true, false, true, true, true, false, false, false, false, false] rfl rfl (any_of HT_.out (by kernel_rfl)) (fun _ _ _ h => h) (Or.inl ⟨by rfl, ?_⟩) ?_ ?_
 rotate_left
 ·intro w'
  go_simp
  with_reducible rfl
 rotate_left
 ·simp only [Act.put, List.setIfInBounds_toArray, List.set_cons_zero, List.set_cons_succ, i64_w, i32_w]
  rfl
 refine take_ (i := 5) (N := some 17) (v := ?_) (a' := ?_) #[true, true, true, true, true, true, true, true, true, false, false, false, false, false] rfl rfl (take_ofW HT_.out HW_.out (by kernel_rfl)) (fun _ _ _ h => h) (Or.inl ⟨by rfl, ?_⟩) hHeld ?_ ?_
 rotate_left
 ·rintro w' ⟨s0, s1⟩
  go_simp
  with_reducible rfl
 rotate_left
 ·simp only [Act.put, List.setIfInBounds_toArray, List.set_cons_zero, List.set_cons_succ, i64_w, i32_w]
  rfl
 refine take_ (i := 9) (N := some 21) (v := ?_) (a' := ?_) #[true, true, true, true, true, true, true, true, true, true, false, false, false, false] rfl rfl (take_ofW HT_.out HW_.out (by kernel_rfl)) (fun _ _ _ h => h) (Or.inl ⟨by rfl, ?_⟩) hHeld ?_ ?_
 rotate_left
 ·rintro w' ⟨s0, s1⟩
  go_simp
  with_reducible rfl
 rotate_left
 ·simp only [Act.put, List.setIfInBounds_toArray, List.set_cons_zero, List.set_cons_succ, i64_w, i32_w]
  rfl
 refine pure_ (i := 10) (N := some 22) (v := ?_) (a' := ?_) #[true, true, true, true, true, true, true, true, true, true, true, false, false, false] rfl rfl (any_of HT_.out (by kernel_rfl)) (fun _ _ _ h => h) (Or.inl ⟨by rfl, ?_⟩) ?_ ?_
 rotate_left
 ·intro w'
  go_simp
  with_reducible rfl
 rotate_left
 ·simp only [Act.put, List.setIfInBounds_toArray, List.set_cons_zero, List.set_cons_succ, i64_w, i32_w]
  rfl
 refine join_ (σ := Nat × Nat × Nat) 1 #[true, true, true, true, true, true, true, true, true, true, true, true, true, false] (fun s_ => [(23, .agg #[.int .i64 wide, .int .i64 high, .int .i64 bits, .slice (some ⟨s_.2.1, 0, none⟩) np s_.2.2]), (9, .pointer (some ⟨s_.1, 0, none⟩))]) (fun s_ w' => (w'.cell? ⟨ad.block, ad.off + 2, none⟩ = some (.int .i64 bits) ∧ w'.cell? ⟨ad.block, ad.off + 3, none⟩ = some (.slice A3 np c3)) ∧ w'.heap[g8]? = some (.cells #[.int .i64 0, .int .i64 0, .int .i64 0, .slice none 0 0] 24 (0, 0)) ∧ w'.heap[s_.1]? = some (.cells #[.int .i64 0, .int .i64 0, .int .i64 0, .slice none 0 0] 24 (0, 0)) ∧ g8 ≠ s_.1 ∧ w.heap.size ≤ s_.1 ∧ Kd.S (Kd.slice 3 (Kd.int .i64)) 39 w' w.heap.size (fun _ => True) (.slice (some ⟨s_.2.1, 0, none⟩) np s_.2.2) (tlN wide.toNat high.toNat cols.toNat np l 0) ∧ Below w.heap.size w w') ?_ ?_
 rotate_left
 ·intro hCont
  refine two_ (i := 11) (j := 12) (Ni := some 23) (Nj := some 9) #[true, true, true, true, true, true, true, true, true, true, true, true, false, false] #[true, true, true, true, true, true, true, true, true, true, true, false, true, false] rfl rfl rfl rfl (two_of HT_.out (by kernel_rfl)) (by decide) (by decide) (fun K hK => ?_) (fun K hK => ?_)
  ·skip
   have HB := HB8
   refine goes_ Tryz.func107 (by kernel_rfl) rfl #[.int .i64 wide, .int .i64 high, .int .i64 bits, .int .i64 (np : Int)] (by rfl) rfl rfl (by (try simp only [List.map_toArray, List.map_cons, List.map_nil]); first | done | rfl) ?_
   refine (item_blank.calls (np + 1) wide high bits (np : Int) _ _ _ _ _ HBL.out).mono ?_
   rintro e w9 ⟨v7, rfl, hs7, hbX⟩
   obtain ⟨gN, cN, rfl, _, _, _⟩ := Kd.S_form hs7 (by rw [List.length_replicate]; exact HG.out.2.2.2.2.2.2.2.2.1)
   rw [List.length_replicate] at *
   refine ⟨_, rfl, ?_⟩
   have HS7 := As0.mk (Kd.S_lower hs7 (by have := HB.out.size; omega : w.heap.size ≤ wd.heap.size))
   replace BKg8 := As0.mk (bkb BKg8.out hbX)
   replace HB := As0.mk (pwt HB.out hbX)
   refine hK.out _ _ ⟨(hbX.cell (World.block_lt_of_cell? _ _ hHeld.1)).trans hHeld.1, (hbX.cell (World.block_lt_of_cell? _ _ hHeld.2)).trans hHeld.2⟩ (fun hHeld => ?_)
   clear hK K
   refine norm_ (a' := ?_) ?_ ?_
   rotate_left
   ·show Act.put _ (some 23) _ = _
    simp only [Act.put, List.setIfInBounds_toArray, List.set_cons_zero, List.set_cons_succ, i64_w, i32_w]
    rfl
   clear hbX hs7
   refine one_ (i := 12) (N := some 9) #[true, true, true, true, true, true, true, true, true, true, true, true, true, false] rfl rfl (one_of HT_.out (by kernel_rfl)) (by decide) (fun K hK => ?_)
   refine box_step ?hg (N := 9) ?hd (cs := #[.int .i64 0, .int .i64 0, .int .i64 0, .slice none 0 0]) (t := 24) ?hr ?_; (case hd => rfl); (case hg => rfl); (case hr => first | (go_simp; done) | (go_simp; rfl))
   intro g9 hg w10 hbox hbX
   have BKg9 := As0.mk hbox
   have NE89 : As0 (g8 ≠ g9) := ⟨by have := blk_lt BKg8.out; omega⟩
   have GE9 : As0 (w.heap.size ≤ g9) := ⟨by have := HB.out.size; omega⟩
   replace BKg8 := As0.mk (bkb BKg8.out hbX)
   replace HS7 := As0.mk (Kd.S_below HS7.out hbX)
   replace HB := As0.mk (pwt HB.out hbX)
   refine hK.out _ _ ⟨(hbX.cell (World.block_lt_of_cell? _ _ hHeld.1)).trans hHeld.1, (hbX.cell (World.block_lt_of_cell? _ _ hHeld.2)).trans hHeld.2⟩ (fun hHeld => ?_)
   clear hK K
   refine norm_ (a' := ?_) ?_ ?_
   rotate_left
   ·show Act.put _ (some 9) _ = _
    simp only [Act.put, List.setIfInBounds_toArray, List.set_cons_zero, List.set_cons_succ, i64_w, i32_w]
    rfl
   clear hbX hbox hg
   exact norm_ (by simp only [putAll, Act.put, List.setIfInBounds_toArray, List.set_cons_zero, List.set_cons_succ]) (hCont (g9, gN, cN) _ ⟨hHeld, BKg8.out, BKg9.out, NE89.out, GE9.out, by rw [tl0_ wide.toNat high.toNat cols.toNat np l, ← Int.toNat_natCast (wide.toNat * high.toNat), Int.natCast_mul, Int.toNat_of_nonneg (by have := HG.out; omega), Int.toNat_of_nonneg (by have := HG.out; omega)]; exact HS7.out, HB.out⟩)
  ·skip
   have HB := HB8
   refine box_step ?hg (N := 9) ?hd (cs := #[.int .i64 0, .int .i64 0, .int .i64 0, .slice none 0 0]) (t := 24) ?hr ?_; (case hd => rfl); (case hg => rfl); (case hr => first | (go_simp; done) | (go_simp; rfl))
   intro g9 hg w9 hbox hbX
   have BKg9 := As0.mk hbox
   have NE89 : As0 (g8 ≠ g9) := ⟨by have := blk_lt BKg8.out; omega⟩
   have GE9 : As0 (w.heap.size ≤ g9) := ⟨by have := HB.out.size; omega⟩
   replace BKg8 := As0.mk (bkb BKg8.out hbX)
   replace HB := As0.mk (pwt HB.out hbX)
   refine hK.out _ _ ⟨(hbX.cell (World.block_lt_of_cell? _ _ hHeld.1)).trans hHeld.1, (hbX.cell (World.block_lt_of_cell? _ _ hHeld.2)).trans hHeld.2⟩ (fun hHeld => ?_)
   clear hK K
   refine norm_ (a' := ?_) ?_ ?_
   rotate_left
   ·show Act.put _ (some 9) _ = _
    simp only [Act.put, List.setIfInBounds_toArray, List.set_cons_zero, List.set_cons_succ, i64_w, i32_w]
    rfl
   clear hbX hbox hg
   refine one_ (i := 11) (N := some 23) #[true, true, true, true, true, true, true, true, true, true, true, true, true, false] rfl rfl (one_of HT_.out (by kernel_rfl)) (by decide) (fun K hK => ?_)
   refine goes_ Tryz.func107 (by kernel_rfl) rfl #[.int .i64 wide, .int .i64 high, .int .i64 bits, .int .i64 (np : Int)] (by rfl) rfl rfl (by (try simp only [List.map_toArray, List.map_cons, List.map_nil]); first | done | rfl) ?_
   refine (item_blank.calls (np + 1) wide high bits (np : Int) _ _ _ _ _ HBL.out).mono ?_
   rintro e w10 ⟨v7, rfl, hs7, hbX⟩
   obtain ⟨gN, cN, rfl, _, _, _⟩ := Kd.S_form hs7 (by rw [List.length_replicate]; exact HG.out.2.2.2.2.2.2.2.2.1)
   rw [List.length_replicate] at *
   refine ⟨_, rfl, ?_⟩
   have HS7 := As0.mk (Kd.S_lower hs7 (by have := HB.out.size; omega : w.heap.size ≤ w9.heap.size))
   replace BKg8 := As0.mk (bkb BKg8.out hbX)
   replace BKg9 := As0.mk (bkb BKg9.out hbX)
   replace HB := As0.mk (pwt HB.out hbX)
   refine hK.out _ _ ⟨(hbX.cell (World.block_lt_of_cell? _ _ hHeld.1)).trans hHeld.1, (hbX.cell (World.block_lt_of_cell? _ _ hHeld.2)).trans hHeld.2⟩ (fun hHeld => ?_)
   clear hK K
   refine norm_ (a' := ?_) ?_ ?_
   rotate_left
   ·show Act.put _ (some 23) _ = _
    simp only [Act.put, List.setIfInBounds_toArray, List.set_cons_zero, List.set_cons_succ, i64_w, i32_w]
    rfl
   clear hbX hs7
   exact norm_ (by simp only [putAll, Act.put, List.setIfInBounds_toArray, List.set_cons_zero, List.set_cons_succ]) (hCont (g9, gN, cN) _ ⟨hHeld, BKg8.out, BKg9.out, NE89.out, GE9.out, by rw [tl0_ wide.toNat high.toNat cols.toNat np l, ← Int.toNat_natCast (wide.toNat * high.toNat), Int.natCast_mul, Int.toNat_of_nonneg (by have := HG.out; omega), Int.toNat_of_nonneg (by have := HG.out; omega)]; exact HS7.out, HB.out⟩)
 clear BKg8 HB8
 rintro ⟨g9, gN, cN⟩ w7 ⟨hS_, hh0, hh1, hh2, hh3, hh4, hh5⟩
 have BKg8 := As0.mk hh0
 have BKg9 := As0.mk hh1
 have NE89 := As0.mk hh2
 have GE9 := As0.mk hh3
 have HS7 := As0.mk hh4
 have HB7 := As0.mk hh5
 clear hh0 hh1 hh2 hh3 hh4 hh5 hHeld hS_
 refine norm_ (a' := ?_) ?_ ?_
 rotate_left
 ·simp only [putAll, Act.put, List.setIfInBounds_toArray, List.set_cons_zero, List.set_cons_succ]
  rfl
 refine last_ (i := 13) (N := none) #[true, true, true, true, true, true, true, true, true, true, true, true, true, true] rfl rfl (one_of HT_.out (by kernel_rfl)) (by decide) (fun K hK => ?_)
 have z0 : w7.cell? ⟨g9, 0, none⟩ = some (.int .i64 0) := (bkc BKg9.out 0).trans rfl
 have z1 : w7.cell? ⟨g9, 1, none⟩ = some (.int .i64 0) := (bkc BKg9.out 1).trans rfl
 have z2 : w7.cell? ⟨g9, 2, none⟩ = some (.int .i64 0) := (bkc BKg9.out 2).trans rfl
 have z3 : w7.cell? ⟨g9, 3, none⟩ = some (.slice none 0 0) := (bkc BKg9.out 3).trans rfl
 have fz0 := bkz BKg9.out 0
 have fz1 := bkz BKg9.out 1
 have fz2 := bkz BKg9.out 2
 have fz3 := bkz BKg9.out 3
 refine skip_ (w1 := ?_) (by rfl) rfl ?_ ?_
 rotate_left
 ·go_simp
  rfl
 refine hK.out _ _ ?_
 clear hK K
 refine done_ (done_of HT_.out (by kernel_rfl)) ?_
 clear z0 z1 z2 z3 fz0 fz1 fz2 fz3
 go_wp2
 go_loopg [26] l.length (fun kq v26 w' => ∃ (i : Int), v26 = .int .i64 i ∧ As0 (0 ≤ i ∧ i + kq = l.length) ∧ As0 (Kd.S (Kd.slice 3 (Kd.int .i64)) 39 w' w.heap.size (fun _ => True) (.slice (some ⟨gN, 0, none⟩) np cN) (tlN wide.toNat high.toNat cols.toNat np l i.toNat)) ∧ As0 (w'.heap[g8]? = some (.cells #[.int .i64 0, .int .i64 0, .int .i64 0, .slice none 0 0] 24 (0, 0))) ∧ As0 (w'.heap[g9]? = some (.cells #[.int .i64 wide, .int .i64 high, .int .i64 bits, .slice (some ⟨gN, 0, none⟩) np cN] 24 (0, 0))) ∧ As0 (Below w.heap.size w w'))
 case atStart => exact ⟨0, rfl, ⟨by omega, by omega⟩, ⟨four_S HS7.out BKg9.out (by decide) _ _ _ _⟩, ⟨four_far BKg8.out NE89.out _ _ _ _⟩, ⟨four_put BKg9.out _ _ _ _⟩, ⟨four_below HB7.out GE9.out _ _ _ _⟩⟩
 case round =>
  clear BKg8 BKg9 HS7 HB7
  obtain ⟨i, rfl, HI, HS, BKg8, BKg9, HB⟩ := hrel
  cases gk with
  | zero =>
   have hge : decide (i < (l.length : Int)) = false := by have := HI.out; simp; omega
   have hil : i.toNat = l.length := by have := HI.out; omega
   rw [hil] at HS
   have z0 : wr.cell? ⟨g8, 0, none⟩ = some (.int .i64 0) := (bkc BKg8.out 0).trans rfl
   have z1 : wr.cell? ⟨g8, 1, none⟩ = some (.int .i64 0) := (bkc BKg8.out 1).trans rfl
   have z2 : wr.cell? ⟨g8, 2, none⟩ = some (.int .i64 0) := (bkc BKg8.out 2).trans rfl
   have z3 : wr.cell? ⟨g8, 3, none⟩ = some (.slice none 0 0) := (bkc BKg8.out 3).trans rfl
   have fz0 := bkz BKg8.out 0
   have fz1 := bkz BKg8.out 1
   have fz2 := bkz BKg8.out 2
   have fz3 := bkz BKg8.out 3
   have k0 : wr.cell? ⟨g9, 0, none⟩ = some (.int .i64 wide) := (bkc BKg9.out 0).trans rfl
   have k1 : wr.cell? ⟨g9, 1, none⟩ = some (.int .i64 high) := (bkc BKg9.out 1).trans rfl
   have k2 : wr.cell? ⟨g9, 2, none⟩ = some (.int .i64 bits) := (bkc BKg9.out 2).trans rfl
   have k3 : wr.cell? ⟨g9, 3, none⟩ = some (.slice (some ⟨gN, 0, none⟩) np cN) := (bkc BKg9.out 3).trans rfl
   go_wp2
   refine bodyPost_ret (results_cell_row rfl _ _ g8 24 #[.int .i64 wide, .int .i64 high, .int .i64 bits, .slice (some ⟨gN, 0, none⟩) np cN] (0, 0) _ rfl (four_put BKg8.out _ _ _ _) Tryz.underlying24 rfl (by kernel_rfl)) rfl ?_
   have hf := HF.out
   simp only [Prod.mk.injEq] at hf
   obtain ⟨rfl, rfl, rfl, rfl⟩ := hf
   exact ⟨_, rfl, four_S HS.out BKg8.out (by decide) _ _ _ _, four_below HB.out GE8.out _ _ _ _⟩
  | succ kq1 =>
   have i0 : 0 ≤ i := HI.out.1
   have i1 : i < (l.length : Int) := by have := HI.out; omega
   obtain ⟨ad', Ai, ci, had, hx0, hx1, hx2, hx3, hlc, hCi⟩ := at_T24 HR.out i i0 i1
   cases had
   have hmem : rd_T24 l i ∈ l := by
    have hlt : i.toNat < l.length := by omega
    have : rd_T24 l i = l[i.toNat] := by simp [rd_T24, List.getD_eq_getElem?_getD, List.getElem?_eq_getElem hlt]
    rw [this]; exact List.getElem_mem hlt
   have hei := HE.out _ hmem
   have hstep : tlN wide.toNat high.toNat cols.toNat np l (i.toNat + 1) = putP (wide.toNat : Int) (high.toNat : Int) (((i.toNat % cols.toNat) * (rd_T24 l i).f0.toNat : Nat) : Int) (((i.toNat / cols.toNat) * (rd_T24 l i).f1.toNat : Nat) : Int) (rd_T24 l i).f0.toNat ((rd_T24 l i).f0.toNat * (rd_T24 l i).f1.toNat) (tlN wide.toNat high.toNat cols.toNat np l i.toNat) (rd_T24 l i).f3 := by
    conv => lhs; unfold tlN
    rw [Int.toNat_of_nonneg i0]
   generalize rd_T24 l i = xi at *
   have HEI := As0.mk hei
   have HST := As0.mk hstep
   have HCI := As0.mk hCi
   have hm1 : i.toNat % cols.toNat < cols.toNat := Nat.mod_lt _ (by have := HG.out; omega)
   have hd1 : i.toNat / cols.toNat ≤ i.toNat := Nat.div_le_self _ _
   have p1 : (i.toNat % cols.toNat) * xi.f0.toNat ≤ 1000 * 1000 := Nat.mul_le_mul (by have := HG.out; omega) (by omega)
   have p2 : (i.toNat / cols.toNat) * xi.f1.toNat ≤ 1000 * 1000 := Nat.mul_le_mul (by have := HG.out; omega) (by omega)
   have hcc : 0 ≤ cols := by have := HG.out; omega
   obtain ⟨q1, hq1, v1⟩ : ∃ q, Int.tmod i cols = q ∧ q = ((i.toNat % cols.toNat : Nat) : Int) := ⟨_, rfl, by rw [Int.tmod_eq_emod_of_nonneg i0, Int.natCast_emod, Int.toNat_of_nonneg i0, Int.toNat_of_nonneg hcc]⟩
   obtain ⟨q2, hq2, v2⟩ : ∃ q, wrap64 (q1 * xi.f0) = q ∧ q = (((i.toNat % cols.toNat) * xi.f0.toNat : Nat) : Int) := ⟨_, rfl, by rw [v1, show ((i.toNat % cols.toNat : Nat) : Int) * xi.f0 = (((i.toNat % cols.toNat) * xi.f0.toNat : Nat) : Int) by rw [Int.natCast_mul]; congr 1; omega]; exact w64_idn _ (by omega)⟩
   obtain ⟨q3, hq3, v3⟩ : ∃ q, wrap64 (Int.tdiv i cols) = q ∧ q = ((i.toNat / cols.toNat : Nat) : Int) := ⟨_, rfl, by rw [Int.tdiv_eq_ediv_of_nonneg i0, show i / cols = ((i.toNat / cols.toNat : Nat) : Int) by rw [Int.natCast_ediv, Int.toNat_of_nonneg i0, Int.toNat_of_nonneg hcc]]; exact w64_idn _ (by have := HG.out; omega)⟩
   obtain ⟨q4, hq4, v4⟩ : ∃ q, wrap64 (q3 * xi.f1) = q ∧ q = (((i.toNat / cols.toNat) * xi.f1.toNat : Nat) : Int) := ⟨_, rfl, by rw [v3, show ((i.toNat / cols.toNat : Nat) : Int) * xi.f1 = (((i.toNat / cols.toNat) * xi.f1.toNat : Nat) : Int) by rw [Int.natCast_mul]; congr 1; omega]; exact w64_idn _ (by omega)⟩
   have HQ := As0.mk (And.intro v2 v4)
   have HPB := As0.mk (And.intro p1 p2)
   have hw : As0 (wrap64 (i + 1) = i + 1 ∧ (i + 1).toNat = i.toNat + 1) := ⟨by have := HG.out; unfold wrap64; omega, by omega⟩
   clear v1 v2 v3 v4 p1 p2 hm1 hd1 hcc hei hstep hCi hmem hlc
   have y0 : wr.cell? (ad.add (i.toNat * 4)) = some (.int .i64 xi.f0) := (HB.out.cell (World.block_lt_of_cell? w _ hx0)).trans hx0
   have y1 : wr.cell? ⟨(ad.add (i.toNat * 4)).block, (ad.add (i.toNat * 4)).off + 1, none⟩ = some (.int .i64 xi.f1) := (HB.out.cell (World.block_lt_of_cell? w _ hx1)).trans hx1
   have y2 : wr.cell? ⟨(ad.add (i.toNat * 4)).block, (ad.add (i.toNat * 4)).off + 2, none⟩ = some (.int .i64 xi.f2) := (HB.out.cell (World.block_lt_of_cell? w _ hx2)).trans hx2
   have y3 : wr.cell? ⟨(ad.add (i.toNat * 4)).block, (ad.add (i.toNat * 4)).off + 3, none⟩ = some (.slice Ai xi.f3.length ci) := (HB.out.cell (World.block_lt_of_cell? w _ hx3)).trans hx3
   clear hx0 hx1 hx2 hx3
   have id : decide (i < (l.length : Int)) = true := decide_eq_true i1
   have i0d : decide (0 ≤ i) = true := decide_eq_true i0
   have cz : (cols == 0) = false := CZ.out.1
   have cz' : cols ≠ 0 := CZ.out.2
   replace i0 := eq_true i0
   replace i1 := eq_true i1
   go_wp2_with (first | ((with_reducible refine gdt (N := 11) rfl ?_); refine bxe ?hg (N := 11) ?hd (cs := #[.int .i64 0, .int .i64 0, .int .i64 0, .slice none 0 0]) (t := 24) ?hr ?_; (case hd => rfl); (case hg => rfl); (case hr => first | (go_simp; done) | (go_simp; rfl)); intro g11 hgg11 w11 hboxg11 hbg11; have BKg11 := As0.mk hboxg11; have GE11 : As0 (w.heap.size ≤ g11) := ⟨by have := HB.out.size; omega⟩; have NE11 : As0 (g8 ≠ g11 ∧ g9 ≠ g11) := ⟨by have := blk_lt BKg8.out; omega, by have := blk_lt BKg9.out; omega⟩; replace HB := As0.mk (pwt HB.out hbg11); replace BKg8 := As0.mk (bkb BKg8.out hbg11); replace BKg9 := As0.mk (bkb BKg9.out hbg11); replace HS := As0.mk (Kd.S_below HS.out hbg11); have z0 : w11.cell? ⟨g11, 0, none⟩ = some (.int .i64 0) := (bkc BKg11.out 0).trans rfl; have z1 : w11.cell? ⟨g11, 1, none⟩ = some (.int .i64 0) := (bkc BKg11.out 1).trans rfl; have z2 : w11.cell? ⟨g11, 2, none⟩ = some (.int .i64 0) := (bkc BKg11.out 2).trans rfl; have z3 : w11.cell? ⟨g11, 3, none⟩ = some (.slice none 0 0) := (bkc BKg11.out 3).trans rfl; have fz0 := bkz BKg11.out 0; have fz1 := bkz BKg11.out 1; have fz2 := bkz BKg11.out 2; have fz3 := bkz BKg11.out 3; clear hboxg11 hbg11 hgg11))
   clear y0 y1 y2 y3
   clear z0 z1 z2 z3 fz0 fz1 fz2 fz3
   replace HS := As0.mk (four_S HS.out BKg11.out (by decide) (.int .i64 xi.f0) (.int .i64 xi.f1) (.int .i64 xi.f2) (.slice Ai xi.f3.length ci))
   replace BKg8 := As0.mk (four_far BKg8.out NE11.out.1 (.int .i64 xi.f0) (.int .i64 xi.f1) (.int .i64 xi.f2) (.slice Ai xi.f3.length ci))
   replace BKg9 := As0.mk (four_far BKg9.out NE11.out.2 (.int .i64 xi.f0) (.int .i64 xi.f1) (.int .i64 xi.f2) (.slice Ai xi.f3.length ci))
   replace HB := As0.mk (four_below HB.out GE11.out (.int .i64 xi.f0) (.int .i64 xi.f1) (.int .i64 xi.f2) (.slice Ai xi.f3.length ci))
   replace BKg11 := As0.mk (four_put BKg11.out (.int .i64 xi.f0) (.int .i64 xi.f1) (.int .i64 xi.f2) (.slice Ai xi.f3.length ci))
   generalize ((((w11.setCell ⟨g11, 0, none⟩ (.int .i64 xi.f0)).setCell ⟨g11, 1, none⟩ (.int .i64 xi.f1)).setCell ⟨g11, 2, none⟩ (.int .i64 xi.f2)).setCell ⟨g11, 3, none⟩ (.slice Ai xi.f3.length ci)) = wx at *
   have k0 : wx.cell? ⟨g9, 0, none⟩ = some (.int .i64 wide) := (bkc BKg9.out 0).trans rfl
   have k1 : wx.cell? ⟨g9, 1, none⟩ = some (.int .i64 high) := (bkc BKg9.out 1).trans rfl
   have k2 : wx.cell? ⟨g9, 2, none⟩ = some (.int .i64 bits) := (bkc BKg9.out 2).trans rfl
   have k3 : wx.cell? ⟨g9, 3, none⟩ = some (.slice (some ⟨gN, 0, none⟩) np cN) := (bkc BKg9.out 3).trans rfl
   have m0 : wx.cell? ⟨g11, 0, none⟩ = some (.int .i64 xi.f0) := (bkc BKg11.out 0).trans rfl
   have m1 : wx.cell? ⟨g11, 1, none⟩ = some (.int .i64 xi.f1) := (bkc BKg11.out 1).trans rfl
   have m2 : wx.cell? ⟨g11, 2, none⟩ = some (.int .i64 xi.f2) := (bkc BKg11.out 2).trans rfl
   have m3 : wx.cell? ⟨g11, 3, none⟩ = some (.slice Ai xi.f3.length ci) := (bkc BKg11.out 3).trans rfl
   refine start_ (n := 15) (S := fun w' => w'.cell? ⟨g9, 0, none⟩ = some (.int .i64 wide) ∧ w'.cell? ⟨g9, 1, none⟩ = some (.int .i64 high) ∧ w'.cell? ⟨g9, 2, none⟩ = some (.int .i64 bits) ∧ w'.cell? ⟨g9, 3, none⟩ = some (.slice (some ⟨gN, 0, none⟩) np cN) ∧ w'.cell? ⟨g11, 0, none⟩ = some (.int .i64 xi.f0) ∧ w'.cell? ⟨g11, 1, none⟩ = some (.int .i64 xi.f1) ∧ w'.cell? ⟨g11, 2, none⟩ = some (.int .i64 xi.f2) ∧ w'.cell? ⟨g11, 3, none⟩ = some (.slice Ai xi.f3.length ci)) (ds := [14]) #[false, false, false, false, false, false, false, false, false, false, false, false, false, false, false] (by kernel_rfl) rfl rfl ⟨k0, k1, k2, k3, m0, m1, m2, m3⟩ (fun hHeld => ?_); refine with_tabW item_tiled.tab5 item_tiled.bits5 (fun HT_ HW_ => ?_)
   replace HS := As0.mk (Kd.S_drew HS.out)
   replace BKg8 := As0.mk (bkd BKg8.out)
   replace BKg9 := As0.mk (bkd BKg9.out)
   replace BKg11 := As0.mk (bkd BKg11.out)
   replace HB := As0.mk (bwd HB.out)
   clear k0 k1 k2 k3 m0 m1 m2 m3
   generalize wx.drew = wd at *
   refine pure_ (i := 2) (N := some 33) (v := ?_) (a' := ?_) #[false, false, true, false, false, false, false, false, false, false, false, false, false, false, false] rfl rfl (any_of HT_.out (by kernel_rfl)) (fun _ _ _ h => h) (Or.inl ⟨by rfl, ?_⟩) ?_ ?_
   rotate_left
   ·intro w'
    go_simp
    with_reducible rfl
   rotate_left
   ·simp only [Act.put, List.setIfInBounds_toArray, List.set_cons_zero, List.set_cons_succ, i64_w, i32_w, hq1, hq2, hq3, hq4]
    rfl
   refine pure_ (i := 3) (N := some 34) (v := ?_) (a' := ?_) #[false, false, true, true, false, false, false, false, false, false, false, false, false, false, false] rfl rfl (any_of HT_.out (by kernel_rfl)) (fun _ _ _ h => h) (Or.inl ⟨by rfl, ?_⟩) ?_ ?_
   rotate_left
   ·intro w'
    go_simp
    with_reducible rfl
   rotate_left
   ·simp only [Act.put, List.setIfInBounds_toArray, List.set_cons_zero, List.set_cons_succ, i64_w, i32_w, hq1, hq2, hq3, hq4]
    rfl
   refine pure_ (i := 4) (N := some 35) (v := ?_) (a' := ?_) #[false, false, true, true, true, false, false, false, false, false, false, false, false, false, false] rfl rfl (any_of HT_.out (by kernel_rfl)) (fun _ _ _ h => h) (Or.inl ⟨by rfl, ?_⟩) ?_ ?_
   rotate_left
   ·intro w'
    go_simp
    with_reducible rfl
   rotate_left
   ·simp only [Act.put, List.setIfInBounds_toArray, List.set_cons_zero, List.set_cons_succ, i64_w, i32_w, hq1, hq2, hq3, hq4]
    rfl
   refine pure_ (i := 5) (N := some 36) (v := ?_) (a' := ?_) #[false, false, true, true, true, true, false, false, false, false, false, false, false, false, false] rfl rfl (any_of HT_.out (by kernel_rfl)) (fun _ _ _ h => h) (Or.inl ⟨by rfl, ?_⟩) ?_ ?_
   rotate_left
   ·intro w'
    go_simp
    with_reducible rfl
   rotate_left
   ·simp only [Act.put, List.setIfInBounds_toArray, List.set_cons_zero, List.set_cons_succ, i64_w, i32_w, hq1, hq2, hq3, hq4]
    rfl
   refine pure_ (i := 8) (N := some 39) (v := ?_) (a' := ?_) #[false, false, true, true, true, true, false, false, true, false, false, false, false, false, false] rfl rfl (any_of HT_.out (by kernel_rfl)) (fun _ _ _ h => h) (Or.inl ⟨by rfl, ?_⟩) ?_ ?_
   rotate_left
   ·intro w'
    go_simp
    with_reducible rfl
   rotate_left
   ·simp only [Act.put, List.setIfInBounds_toArray, List.set_cons_zero, List.set_cons_succ, i64_w, i32_w, hq1, hq2, hq3, hq4]
    rfl
   refine pure_ (i := 9) (N := some 40) (v := ?_) (a' := ?_) #[false, false, true, true, true, true, false, false, true, true, false, false, false, false, false] rfl rfl (any_of HT_.out (by kernel_rfl)) (fun _ _ _ h => h) (Or.inl ⟨by rfl, ?_⟩) ?_ ?_
   rotate_left
   ·intro w'
    go_simp
    with_reducible rfl
   rotate_left
   ·simp only [Act.put, List.setIfInBounds_toArray, List.set_cons_zero, List.set_cons_succ, i64_w, i32_w, hq1, hq2, hq3, hq4]
    rfl
   refine pure_ (i := 10) (N := some 41) (v := ?_) (a' := ?_) #[false, false, true, true, true, true, false, false, true, true, true, false, false, false, false] rfl rfl (any_of HT_.out (by kernel_rfl)) (fun _ _ _ h => h) (Or.inl ⟨by rfl, ?_⟩) ?_ ?_
   rotate_left
   ·intro w'
    go_simp
    with_reducible rfl
   rotate_left
   ·simp only [Act.put, List.setIfInBounds_toArray, List.set_cons_zero, List.set_cons_succ, i64_w, i32_w, hq1, hq2, hq3, hq4]
    rfl
   refine pure_ (i := 11) (N := some 42) (v := ?_) (a' := ?_) #[false, false, true, true, true, true, false, false, true, true, true, true, false, false, false] rfl rfl (any_of HT_.out (by kernel_rfl)) (fun _ _ _ h => h) (Or.inl ⟨by rfl, ?_⟩) ?_ ?_
   rotate_left
   ·intro w'
    go_simp
    with_reducible rfl
   rotate_left
   ·simp only [Act.put, List.setIfInBounds_toArray, List.set_cons_zero, List.set_cons_succ, i64_w, i32_w, hq1, hq2, hq3, hq4]
    rfl
   refine take_ (i := 0) (N := some 31) (v := ?_) (a' := ?_) #[true, false, true, true, true, true, false, false, true, true, true, true, false, false, false] rfl rfl (take_ofW HT_.out HW_.out (by kernel_rfl)) (fun _ _ _ h => h) (Or.inl ⟨by rfl, ?_⟩) hHeld ?_ ?_
   rotate_left
   ·rintro w' ⟨s0, s1, s2, s3, s4, s5, s6, s7⟩
    go_simp
    with_reducible rfl
   rotate_left
   ·simp only [Act.put, List.setIfInBounds_toArray, List.set_cons_zero, List.set_cons_succ, i64_w, i32_w, hq1, hq2, hq3, hq4]
    rfl
   refine take_ (i := 1) (N := some 32) (v := ?_) (a' := ?_) #[true, true, true, true, true, true, false, false, true, true, true, true, false, false, false] rfl rfl (take_ofW HT_.out HW_.out (by kernel_rfl)) (fun _ _ _ h => h) (Or.inl ⟨by rfl, ?_⟩) hHeld ?_ ?_
   rotate_left
   ·rintro w' ⟨s0, s1, s2, s3, s4, s5, s6, s7⟩
    go_simp
    with_reducible rfl
   rotate_left
   ·simp only [Act.put, List.setIfInBounds_toArray, List.set_cons_zero, List.set_cons_succ, i64_w, i32_w, hq1, hq2, hq3, hq4]
    rfl
   refine take_ (i := 6) (N := some 37) (v := ?_) (a' := ?_) #[true, true, true, true, true, true, true, false, true, true, true, true, false, false, false] rfl rfl (take_ofW HT_.out HW_.out (by kernel_rfl)) (fun _ _ _ h => h) (Or.inl ⟨by rfl, ?_⟩) hHeld ?_ ?_
   rotate_left
   ·rintro w' ⟨s0, s1, s2, s3, s4, s5, s6, s7⟩
    go_simp
    with_reducible rfl
   rotate_left
   ·simp only [Act.put, List.setIfInBounds_toArray, List.set_cons_zero, List.set_cons_succ, i64_w, i32_w, hq1, hq2, hq3, hq4]
    rfl
   refine pure_ (i := 7) (N := some 38) (v := ?_) (a' := ?_) #[true, true, true, true, true, true, true, true, true, true, true, true, false, false, false] rfl rfl (any_of HT_.out (by kernel_rfl)) (fun _ _ _ h => h) (Or.inl ⟨by rfl, ?_⟩) ?_ ?_
   rotate_left
   ·intro w'
    go_simp
    with_reducible rfl
   rotate_left
   ·simp only [Act.put, List.setIfInBounds_toArray, List.set_cons_zero, List.set_cons_succ, i64_w, i32_w, hq1, hq2, hq3, hq4]
    rfl
   refine take_ (i := 12) (N := some 43) (v := ?_) (a' := ?_) #[true, true, true, true, true, true, true, true, true, true, true, true, true, false, false] rfl rfl (take_ofW HT_.out HW_.out (by kernel_rfl)) (fun _ _ _ h => h) (Or.inl ⟨by rfl, ?_⟩) hHeld ?_ ?_
   rotate_left
   ·rintro w' ⟨s0, s1, s2, s3, s4, s5, s6, s7⟩
    go_simp
    with_reducible rfl
   rotate_left
   ·simp only [Act.put, List.setIfInBounds_toArray, List.set_cons_zero, List.set_cons_succ, i64_w, i32_w, hq1, hq2, hq3, hq4]
    rfl
   refine pure_ (i := 13) (N := some 44) (v := ?_) (a' := ?_) #[true, true, true, true, true, true, true, true, true, true, true, true, true, true, false] rfl rfl (any_of HT_.out (by kernel_rfl)) (fun _ _ _ h => h) (Or.inl ⟨by rfl, ?_⟩) ?_ ?_
   rotate_left
   ·intro w'
    go_simp
    with_reducible rfl
   rotate_left
   ·simp only [Act.put, List.setIfInBounds_toArray, List.set_cons_zero, List.set_cons_succ, i64_w, i32_w, hq1, hq2, hq3, hq4]
    rfl
   refine last_ (i := 14) (N := some 45) #[true, true, true, true, true, true, true, true, true, true, true, true, true, true, true] rfl rfl (one_of HT_.out (by kernel_rfl)) (by decide) (fun K hK => ?_)
   refine goes_ Tryz.func68 (by kernel_rfl) rfl #[.agg #[.int .i64 wide, .int .i64 high, .int .i64 bits, .slice (some ⟨gN, 0, none⟩) np cN], .agg #[.int .i64 xi.f0, .int .i64 xi.f1, .int .i64 xi.f2, .slice Ai xi.f3.length ci], .int .i64 q2, .int .i64 q4] (by rfl) rfl rfl (by (try simp only [List.map_toArray, List.map_cons, List.map_nil]); first | done | rfl) ?_
   refine (item_put.calls' wide high bits gN np cN (tlN wide.toNat high.toNat cols.toNat np l i.toNat) xi.f0 xi.f1 xi.f2 Ai xi.f3.length ci xi.f3 q2 q4 _ w.heap.size (fun _ => True) HEI.out.1.2.2.2.2 HS.out (Kd.F_below (Kd.C_F (Kd.heap_slice 3 (Kd.heap_int .i64)) HCI.out) HB.out) HB.out.size ⟨HG.out.2.2.2.2.2.2.2.2.1, HG.out.2.2.2.2.2.2.2.2.2⟩ (by have := HG.out; have := HEI.out.1; have := HQ.out; have := HPB.out; omega) (tlN_ok _ _ _ _ _ _).2 HEI.out.2).mono ?_
   rintro e w15 ⟨rfl, hs15, hb15, hk15⟩
   refine ⟨_, rfl, ?_⟩
   have HS15 : As0 (Kd.S (Kd.slice 3 (Kd.int .i64)) 39 w15 w.heap.size (fun _ => True) (.slice (some ⟨gN, 0, none⟩) np cN) (tlN wide.toNat high.toNat cols.toNat np l (i.toNat + 1))) := ⟨by rw [HST.out, ← HQ.out.1, ← HQ.out.2, Int.toNat_of_nonneg (by have := HG.out; omega), Int.toNat_of_nonneg (by have := HG.out; omega)]; exact hs15⟩
   replace BKg8 := As0.mk (hk15 _ _ _ (by decide) BKg8.out)
   replace BKg9 := As0.mk (hk15 _ _ _ (by decide) BKg9.out)
   replace HB := As0.mk (HB.out.trans hb15)
   clear hs15 hb15 hk15 HS
   refine hK.out _ _ ?_
   clear hK K
   refine done_ (done_of HT_.out (by kernel_rfl)) ?_
   go_wp2
   go_roundg kq1
   case measure => omega
   case rel => exact ⟨i + 1, congrArg _ hw.out.1, ⟨by have := HI.out; omega, by have := HI.out; omega⟩, ⟨by rw [hw.out.2]; exact HS15.out⟩, BKg8, BKg9, HB⟩
def item_shapeOf.f (a0_0 : Int) (a0_1 : Int) (a0_2 : Int) (l0_3 : List (List Int)) : Option (Int × Int × Int × Int) := some (a0_0, a0_1, a0_2, (l0_3.length : Int))
set_option maxHeartbeats 8000000 in
set_option maxRecDepth 100000 in
theorem item_shapeOf.calls (a0_0 : Int) (a0_1 : Int) (a0_2 : Int) (A0_3 : Option Addr) (c0_3 : Nat) (l0_3 : List (List Int)) (r1 : Int) (r2 : Int) (r3 : Int) (r4 : Int) (w : World) (hr0_3 : Kd.C (Kd.slice 3 (Kd.int .i64)) w A0_3 l0_3.length l0_3) (hc0_3 : l0_3.length ≤ c0_3) (h : item_shapeOf.f a0_0 a0_1 a0_2 l0_3 = some (r1, r2, r3, r4)) :
  Calls Tryz.prog 71 #[.agg #[.int .i64 a0_0, .int .i64 a0_1, .int .i64 a0_2, .slice A0_3 l0_3.length c0_3]] w fun e w' => e = .returned (.agg #[.int .i64 r1, .int .i64 r2, .int .i64 r3, .int .i64 r4]) ∧ Below w.heap.size w w' := by
 have hu24 := Tryz.underlying24
 have hu104 := Tryz.underlying104
 have HR0_3 := As0.mk hr0_3
 have HC0_3 := As0.mk hc0_3
 clear hr0_3 hc0_3
 have HB := As0.mk (Below.refl w.heap.size w)
 have H : (some (a0_0, a0_1, a0_2, (l0_3.length : Int))) = some (r1, r2, r3, r4) := h
 clear h
 simp only [Option.some.injEq, Prod.mk.injEq] at H
 obtain ⟨rfl, rfl, rfl, rfl⟩ := H
 go_enter Tryz.func71, Tryz.ntmps71
 go_wp2_with (first | ((with_reducible refine gdt (N := 1) rfl ?_); refine bxe ?hg (N := 1) ?hd (cs := #[.int .i64 a0_0, .int .i64 a0_1, .int .i64 a0_2, .slice A0_3 l0_3.length c0_3]) (t := 24) ?hr ?_; (case hd => rfl); (case hg => rfl); (case hr => first | (go_simp; done) | (go_simp; rfl)); intro gb209 hg w2 hbox hb; have n0_ := As0.mk (bwp (by repeat (first | (with_reducible first | exact HB.out | apply bwa | apply pwN | apply bwd) | exact HB.out)) hb); have n1_ := As0.mk (hbox); have n2_ := As0.mk ((by rw [hg]; exact (bwz (by repeat (first | (with_reducible first | exact HB.out | apply bwa | apply pwN | apply bwd) | exact HB.out))) : w.heap.size ≤ gb209)); have n3_ := As0.mk ((by rw [hg]; exact (bwz (by repeat (first | (with_reducible first | exact HB.out | apply bwa | apply pwN | apply bwd) | exact HB.out))) : w.heap.size ≤ gb209)); clear HB; have HB := n0_; have BK209 := n1_; have GW209 := n2_; have GE209 := n3_; clear n0_ n1_ n2_ n3_; clear hb hbox hg) | ((with_reducible refine gdt (N := 2) rfl ?_); refine bxe ?hg (N := 2) ?hd (cs := #[.int .i64 0, .int .i64 0, .int .i64 0, .int .i64 0]) (t := 104) ?hr ?_; (case hd => rfl); (case hg => rfl); (case hr => first | (go_simp; done) | (go_simp; rfl)); intro gb210 hg w3 hbox hb; have n0_ := As0.mk (bkb (g := gb209) (o := .cells #[.int .i64 a0_0, .int .i64 a0_1, .int .i64 a0_2, .slice A0_3 l0_3.length c0_3] 24 (0, 0)) (by (with_reducible repeat (first | refine bkN ?_ _ | refine bkd ?_ | refine bka ?_ _)); exact BK209.out) hb); have n1_ := As0.mk (bwp (by repeat (first | (with_reducible first | exact HB.out | apply bwa | apply pwN | apply bwd | refine bws ?_ GE209.out) | exact HB.out)) hb); have n2_ := As0.mk (hbox); have n3_ := As0.mk ((by rw [hg]; exact (bwz (by repeat (first | (with_reducible first | exact HB.out | apply bwa | apply pwN | apply bwd | refine bws ?_ GE209.out) | exact HB.out))) : w.heap.size ≤ gb210)); have n4_ := As0.mk ((by rw [hg]; exact (bwz (by repeat (first | (with_reducible first | exact HB.out | apply bwa | apply pwN | apply bwd | refine bws ?_ GE209.out) | exact HB.out))) : w.heap.size ≤ gb210)); have n5_ := As0.mk ((by rw [hg]; exact Nat.ne_of_lt (blk_lt (g := gb209) (o := .cells #[.int .i64 a0_0, .int .i64 a0_1, .int .i64 a0_2, .slice A0_3 l0_3.length c0_3] 24 (0, 0)) (by (with_reducible repeat (first | refine bkN ?_ _ | refine bkd ?_ | refine bka ?_ _)); exact BK209.out)) : gb209 ≠ gb210)); have n6_ := As0.mk ((by rw [hg]; exact Nat.ne_of_gt (blk_lt (g := gb209) (o := .cells #[.int .i64 a0_0, .int .i64 a0_1, .int .i64 a0_2, .slice A0_3 l0_3.length c0_3] 24 (0, 0)) (by (with_reducible repeat (first | refine bkN ?_ _ | refine bkd ?_ | refine bka ?_ _)); exact BK209.out)) : gb210 ≠ gb209)); clear BK209; clear HB; have BK209 := n0_; have HB := n1_; have BK210 := n2_; have GW210 := n3_; have GE210 := n4_; have NB209_210 := n5_; have NB210_209 := n6_; clear n0_ n1_ n2_ n3_ n4_ n5_ n6_; clear hb hbox hg; have hnb4 := NB209_210.out; have hnc4 := NB210_209.out; have hcz5_0 : w3.cell? ⟨gb209, 0, none⟩ = some (.int .i64 a0_0) := (bkc BK209.out 0).trans rfl; have hcz5_1 : w3.cell? ⟨gb209, 1, none⟩ = some (.int .i64 a0_1) := (bkc BK209.out 1).trans rfl; have hcz5_2 : w3.cell? ⟨gb209, 2, none⟩ = some (.int .i64 a0_2) := (bkc BK209.out 2).trans rfl; have hcz5_3 : w3.cell? ⟨gb209, 3, none⟩ = some (.slice A0_3 l0_3.length c0_3) := (bkc BK209.out 3).trans rfl; have hfz5_0 := bkz BK209.out 0; have hfz5_1 := bkz BK209.out 1; have hfz5_2 := bkz BK209.out 2; have hfz5_3 := bkz BK209.out 3; have hcz6_0 : w3.cell? ⟨gb210, 0, none⟩ = some (.int .i64 0) := (bkc BK210.out 0).trans rfl; have hcz6_1 : w3.cell? ⟨gb210, 1, none⟩ = some (.int .i64 0) := (bkc BK210.out 1).trans rfl; have hcz6_2 : w3.cell? ⟨gb210, 2, none⟩ = some (.int .i64 0) := (bkc BK210.out 2).trans rfl; have hcz6_3 : w3.cell? ⟨gb210, 3, none⟩ = some (.int .i64 0) := (bkc BK210.out 3).trans rfl; have hfz6_0 := bkz BK210.out 0; have hfz6_1 := bkz BK210.out 1; have hfz6_2 := bkz BK210.out 2; have hfz6_3 := bkz BK210.out 3))
 refine bodyPost_ret (results_cell_row rfl _ _ gb210 104 #[.int .i64 a0_0, .int .i64 a0_1, .int .i64 a0_2, .int .i64 (l0_3.length : Int)] (0, 0) _ rfl (by (with_reducible repeat (first | refine bkN ?_ _ | refine bkd ?_ | refine bka ?_ _)); refine blk_put (cs := #[.int .i64 a0_0, .int .i64 a0_1, .int .i64 a0_2, .int .i64 0]) ?_ 3 _ rfl; (with_reducible repeat (first | refine bkN ?_ _ | refine bkd ?_ | refine bka ?_ _)); refine blk_put (cs := #[.int .i64 a0_0, .int .i64 a0_1, .int .i64 0, .int .i64 0]) ?_ 2 _ rfl; (with_reducible repeat (first | refine bkN ?_ _ | refine bkd ?_ | refine bka ?_ _)); refine blk_put (cs := #[.int .i64 a0_0, .int .i64 0, .int .i64 0, .int .i64 0]) ?_ 1 _ rfl; (with_reducible repeat (first | refine bkN ?_ _ | refine bkd ?_ | refine bka ?_ _)); refine blk_put (cs := #[.int .i64 0, .int .i64 0, .int .i64 0, .int .i64 0]) ?_ 0 _ rfl; (with_reducible repeat (first | refine bkN ?_ _ | refine bkd ?_ | refine bka ?_ _)); exact BK210.out) Tryz.underlying104 rfl (by kernel_rfl)) rfl ?_
 exact ⟨by first | rfl | (simp [errW_none, errW_some] <;> rfl) | (simp [*, errW_none, errW_some] <;> rfl), by repeat (first | (with_reducible first | exact HB.out | apply bwa | apply pwN | apply bwd | refine bws ?_ GE209.out | refine bws ?_ GE210.out) | exact HB.out)⟩
theorem eqA104 (d : Nat) (w : World) (x0 y0 : Int) (x1 y1 : Int) (x2 y2 : Int) (x3 y3 : Int) :
  (Op.equalIn (d + 2) 104 (.agg #[.int .i64 x0, .int .i64 x1, .int .i64 x2, .int .i64 x3]) (.agg #[.int .i64 y0, .int .i64 y1, .int .i64 y2, .int .i64 y3])).run Tryz.prog w = .ok (x0 == y0 && (x1 == y1 && (x2 == y2 && (x3 == y3)))) w := by
 refine eqA_of Tryz.underlying104 (by kernel_rfl) ?_
 refine eqf_cons (by rfl) (by go_simp; rfl) (by go_simp; rfl) (by go_simp) ?_
 refine eqf_cons (by rfl) (by go_simp; rfl) (by go_simp; rfl) (by go_simp) ?_
 refine eqf_cons (by rfl) (by go_simp; rfl) (by go_simp; rfl) (by go_simp) ?_
 exact eqf_last (by rfl) (by go_simp; rfl) (by go_simp; rfl) (by go_simp)
end Go.Proofs.YtphkionjjhhhlaaGreat.Q
end
