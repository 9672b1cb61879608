/- Lemmas and walks of this proof (part 6). -/
import Derived.Test.YtphkionjjhhhlaaGreatCGrids5
set_option linter.unusedVariables false
set_option linter.unusedSimpArgs false
section
namespace Go.Proofs.YtphkionjjhhhlaaGreat.Q
open Go.RowKit Go.Proofs.YtphkionjjhhhlaaGreatW.PrintWords Go.Proofs.YtphkionjjhhhlaaGreatW.PrintLast Go.Proofs.YtphkionjjhhhlaaGreatW.PrintMore
mutual
def r15_laid.l0 : Nat → List (S24) → Int → Int → Int → Int → Int → Int → Int → List (List Int) → Option (Int × Int × Int × (List (List Int)))
 | 0, _, _, _, _, _, _, _, _, _ => none
 | k + 1, x0, x2, x3, x4, x12, x534000, x534001, x534002, x534003 => if 0 < (x0.length : Int) then (if x12 < (((rd_T24 x0 0).f3).length : Int) then (if 0 ≤ (wrap64 (x3 * x4)) then (if (wrap64 (x3 * x4) : Int).toNat ≤ 35184372088832 then (if x534003.length < 5864062014805 then (r15_laid.l0 k x0 x2 x3 x4 (wrap64 (x12 + 1)) x534000 x534001 x534002 (x534003 ++ [(List.replicate (wrap64 (x3 * x4) : Int).toNat 0)])) else (none)) else (none)) else (none)) else (r15_laid.l1 k x0 x2 0 x534000 x534001 x534002 x534003)) else (none)
def r15_laid.l1 : Nat → List (S24) → Int → Int → Int → Int → Int → List (List Int) → Option (Int × Int × Int × (List (List Int)))
 | 0, _, _, _, _, _, _, _ => none
 | k + 1, x0, x2, x13, x534000, x534001, x534002, x534003 => if x13 < (x0.length : Int) then (if 0 ≤ x13 then (if x2 = 0 then (none) else (if 0 < (x0.length : Int) then ((r15_drawn.f k x534000 x534001 x534002 x534003 ((rd_T24 x0 x13).f0) ((rd_T24 x0 x13).f1) ((rd_T24 x0 x13).f2) ((rd_T24 x0 x13).f3) (wrap64 ((Int.tmod x13 x2) * ((rd_T24 x0 0).f0))) (wrap64 ((wrap64 (Int.tdiv x13 x2)) * ((rd_T24 x0 0).f1)))).bind fun bt544 => (r15_laid.l1 k x0 x2 (wrap64 (x13 + 1)) bt544.1 bt544.2.1 bt544.2.2.1 bt544.2.2.2)) else (none))) else (none)) else (some (x534000, x534001, x534002, x534003))
end
def r15_laid.f (k : Nat) (l0 : List (S24)) (a1 : Int) (a2 : Int) (a3 : Int) (a4 : Int) : Option (Int × Int × Int × (List (List Int))) := if 0 < (l0.length : Int) then (r15_laid.l0 k l0 a2 a3 a4 0 a3 a4 ((rd_T24 l0 0).f2) ([] : List (List Int))) else (none)
def r15_laid.T5 : Bool × List (List Nat × List Nat) := (true, [([], []), ([0], [0]), ([], []), ([], []), ([2, 3], [2, 3]), ([4, 4], [4]), ([5], [5]), ([1, 6], [1, 6]), ([0, 1, 2, 3, 4, 5, 6, 7], []), ([8, 7, 7, 0, 1, 2, 3, 4, 5, 6, 7], [7, 8])])
def r15_laid.B5 : List Nat := [0, 1, 0, 0, 12, 28, 60, 127, 255, 511]
theorem r15_laid.tab5 : rtab .any (opsOf Tryz.f76 5) = r15_laid.T5 := by kernel_rfl
theorem r15_laid.bits5 : waitsOk r15_laid.T5.2 r15_laid.B5 = true := by kernel_rfl
def r15_laid.T9 : Bool × List (List Nat × List Nat) := (true, [([], []), ([], []), ([], []), ([1, 2], [1, 2]), ([3], [3]), ([], []), ([], []), ([5, 6], [5, 6]), ([], []), ([8], [8]), ([9], [9]), ([10], [10]), ([7, 11], [7, 11]), ([], []), ([], []), ([13, 14], [13, 14]), ([], []), ([16], [16]), ([17], [17]), ([18], [18]), ([15, 19], [15, 19]), ([0, 4, 12, 20], [0, 4, 12, 20]), ([21, 21, 0, 1, 2, 3, 4, 5, 6, 7, 8, 9, 10, 11, 12, 13, 14, 15, 16, 17, 18, 19, 20, 21], [21])])
def r15_laid.B9 : List Nat := [0, 0, 0, 6, 14, 0, 0, 96, 0, 256, 768, 1792, 4064, 0, 0, 24576, 0, 65536, 196608, 458752, 1040384, 2097151, 4194303]
theorem r15_laid.tab9 : rtab .any (opsOf Tryz.f76 9) = r15_laid.T9 := by kernel_rfl
theorem r15_laid.bits9 : waitsOk r15_laid.T9.2 r15_laid.B9 = true := by kernel_rfl
set_option maxHeartbeats 8000000 in
set_option maxRecDepth 100000 in
theorem r15_laid.calls (k : Nat) (A0 : Option Addr) (c0 : Nat) (l0 : List (S24)) (a1 : Int) (a2 : Int) (a3 : Int) (a4 : Int) (r1 : Int) (r2 : Int) (r3 : Int) (r4 : List (List Int)) (w : World) (hr0 : Kd.C k24 w A0 l0.length l0) (hc0 : l0.length ≤ c0) (h : r15_laid.f k l0 a1 a2 a3 a4 = some (r1, r2, r3, r4)) :
  Calls Tryz.prog 76 #[.slice A0 l0.length c0, .int .i64 a1, .int .i64 a2, .int .i64 a3, .int .i64 a4] w fun e w' => ∃ v3_ : Value, e = .returned (.agg #[.int .i64 r1, .int .i64 r2, .int .i64 r3, v3_]) ∧ Kd.S (Kd.slice 3 (Kd.int .i64)) 39 w' w.heap.size (fun _ => True) v3_ r4 ∧ Below w.heap.size w w' := by
 have hu24 := Tryz.underlying24
 have HR0 := As0.mk hr0
 have HC0 := As0.mk hc0
 clear hr0 hc0
 have HB := As0.mk (Below.refl w.heap.size w)
 have H : (if 0 < (l0.length : Int) then (r15_laid.l0 k l0 a2 a3 a4 0 a3 a4 ((rd_T24 l0 0).f2) ([] : List (List Int))) else (none)) = some (r1, r2, r3, r4) := h
 clear h
 by_cases c6 : 0 < (l0.length : Int)
 ·rw [if_pos c6] at H
  have c6b0 : decide (0 < (l0.length : Int)) = true := decide_eq_true c6
  have c6b1 : decide (0 < l0.length) = true := decide_eq_true (by omega)
  clear c6
  have H' := As0.mk H
  clear H
  go_enter Tryz.func76, Tryz.ntmps76
  go_wp2_with (first | ((with_reducible refine gdt (N := 10) rfl ?_); refine bxe ?hg (N := 10) ?hd (cs := #[.int .i64 0, .int .i64 0, .int .i64 0, .slice none 0 0]) (t := 24) ?hr ?_; (case hd => rfl); (case hg => rfl); (case hr => first | (go_simp; done) | (go_simp; rfl)); intro gb531 hg w7 hbox hb; have n0_ := As0.mk (bwp (by repeat (first | (with_reducible first | exact HB.out | apply bwa | apply pwN | apply bwd) | exact HB.out)) hb); have n1_ := As0.mk (hbox); have n2_ := As0.mk ((by rw [hg]; exact (bwz (by repeat (first | (with_reducible first | exact HB.out | apply bwa | apply pwN | apply bwd) | exact HB.out))) : w.heap.size ≤ gb531)); have n3_ := As0.mk ((by rw [hg]; exact (bwz (by repeat (first | (with_reducible first | exact HB.out | apply bwa | apply pwN | apply bwd) | exact HB.out))) : w.heap.size ≤ gb531)); clear HB; have HB := n0_; have BK531 := n1_; have GW531 := n2_; have GE531 := n3_; clear n0_ n1_ n2_ n3_; clear hb hbox hg; have p532 : 0 ≤ (0 : Int) := (by omega); have q532 : 0 < (l0.length : Int) := of_decide_eq_true (by first | (with_reducible assumption) | assumption); obtain ⟨ad532, A532_3, c532_3, e532, hx532_0, hx532_1, hx532_2, hx532_3, hl532_3, hi532_3⟩ := at_T24 HR0.out 0 p532 q532; cases e532; have qi532 : (0 < l0.length) = True := eq_true (by omega); (try rw [show ((0 : Int)).toNat = 0 from rfl] at hx532_0); (try rw [show 0 * 4 = 0 from rfl] at hx532_0); (try rw [Addr.add_zero'] at hx532_0); (try rw [show ((0 : Int)).toNat = 0 from rfl] at hx532_1); (try rw [show 0 * 4 = 0 from rfl] at hx532_1); (try rw [Addr.add_zero'] at hx532_1); (try rw [show ((0 : Int)).toNat = 0 from rfl] at hx532_2); (try rw [show 0 * 4 = 0 from rfl] at hx532_2); (try rw [Addr.add_zero'] at hx532_2); (try rw [show ((0 : Int)).toNat = 0 from rfl] at hx532_3); (try rw [show 0 * 4 = 0 from rfl] at hx532_3); (try rw [Addr.add_zero'] at hx532_3); replace hx532_0 := (HB.out.cell (World.block_lt_of_cell? w _ hx532_0)).trans hx532_0; replace hx532_1 := (HB.out.cell (World.block_lt_of_cell? w _ hx532_1)).trans hx532_1; replace hx532_2 := (HB.out.cell (World.block_lt_of_cell? w _ hx532_2)).trans hx532_2; replace hx532_3 := (HB.out.cell (World.block_lt_of_cell? w _ hx532_3)).trans hx532_3; have HR532_3 := As0.mk hi532_3; have HC532_3 := As0.mk hl532_3; clear hi532_3 hl532_3; replace p532 := eq_true p532; replace q532 := eq_true q532) | ((with_reducible refine gdt (N := 11) rfl ?_); refine bxe ?hg (N := 11) ?hd (cs := #[.int .i64 0, .int .i64 0, .int .i64 0, .slice none 0 0]) (t := 24) ?hr ?_; (case hd => rfl); (case hg => rfl); (case hr => first | (go_simp; done) | (go_simp; rfl)); intro gb533 hg w8 hbox hb; have n0_ := As0.mk (bkb (g := gb531) (o := .cells #[.int .i64 0, .int .i64 0, .int .i64 0, .slice none 0 0] 24 (0, 0)) (by (with_reducible repeat (first | refine bkN ?_ _ | refine bkd ?_ | refine bka ?_ _)); exact BK531.out) hb); have n1_ := As0.mk (bwp (by repeat (first | (with_reducible first | exact HB.out | apply bwa | apply pwN | apply bwd | refine bws ?_ GE531.out) | exact HB.out)) hb); have n2_ := As0.mk (hbox); have n3_ := As0.mk ((by rw [hg]; exact (bwz (by repeat (first | (with_reducible first | exact HB.out | apply bwa | apply pwN | apply bwd | refine bws ?_ GE531.out) | exact HB.out))) : w.heap.size ≤ gb533)); have n4_ := As0.mk ((by rw [hg]; exact (bwz (by repeat (first | (with_reducible first | exact HB.out | apply bwa | apply pwN | apply bwd | refine bws ?_ GE531.out) | exact HB.out))) : w.heap.size ≤ gb533)); have n5_ := As0.mk ((by rw [hg]; exact Nat.ne_of_lt (blk_lt (g := gb531) (o := .cells #[.int .i64 0, .int .i64 0, .int .i64 0, .slice none 0 0] 24 (0, 0)) (by (with_reducible repeat (first | refine bkN ?_ _ | refine bkd ?_ | refine bka ?_ _)); exact BK531.out)) : gb531 ≠ gb533)); have n6_ := As0.mk ((by rw [hg]; exact Nat.ne_of_gt (blk_lt (g := gb531) (o := .cells #[.int .i64 0, .int .i64 0, .int .i64 0, .slice none 0 0] 24 (0, 0)) (by (with_reducible repeat (first | refine bkN ?_ _ | refine bkd ?_ | refine bka ?_ _)); exact BK531.out)) : gb533 ≠ gb531)); clear BK531; clear HB; have BK531 := n0_; have HB := n1_; have BK533 := n2_; have GW533 := n3_; have GE533 := n4_; have NB531_533 := n5_; have NB533_531 := n6_; clear n0_ n1_ n2_ n3_ n4_ n5_ n6_; clear hb hbox hg; have hnb9 := NB533_531.out; have hnc9 := NB531_533.out; have hcz10_0 : w8.cell? ⟨gb533, 0, none⟩ = some (.int .i64 0) := (bkc BK533.out 0).trans rfl; have hcz10_1 : w8.cell? ⟨gb533, 1, none⟩ = some (.int .i64 0) := (bkc BK533.out 1).trans rfl; have hcz10_2 : w8.cell? ⟨gb533, 2, none⟩ = some (.int .i64 0) := (bkc BK533.out 2).trans rfl; have hcz10_3 : w8.cell? ⟨gb533, 3, none⟩ = some (.slice none 0 0) := (bkc BK533.out 3).trans rfl; have hfz10_0 := bkz BK533.out 0; have hfz10_1 := bkz BK533.out 1; have hfz10_2 := bkz BK533.out 2; have hfz10_3 := bkz BK533.out 3))
  go_loopg [12] k (fun kq v12 w' => ∃ (x12_1 : Int) (x534003_1 : List (List Int)) (u534003 : Value), v12 = .int .i64 x12_1 ∧ As0 (r15_laid.l0 kq l0 a2 a3 a4 x12_1 a3 a4 ((rd_T24 l0 0).f2) x534003_1 = some (r1, r2, r3, r4)) ∧ As0 (kq ≤ k) ∧ As0 (Kd.S (Kd.slice 3 (Kd.int .i64)) 39 w' w.heap.size (fun _ => True) u534003 x534003_1) ∧ As0 (w'.heap[gb531]? = some (.cells #[.int .i64 0, .int .i64 0, .int .i64 0, (.slice none 0 0)] 24 (0, 0))) ∧ As0 (w'.heap[gb533]? = some (.cells #[.int .i64 a3, .int .i64 a4, .int .i64 ((rd_T24 l0 0).f2), u534003] 24 (0, 0))) ∧ As0 (Below w.heap.size w w'))
  case atStart => exact ⟨(0), (([] : List (List Int))), (.slice none 0 0), (by first | rfl | (simp; done) | (simp [*]; done)), H', ⟨Nat.le_refl _⟩, ⟨by first | exact Kd.S_nil _ _ _ _ _ | exact Kd.N_nil _ _ _ _ _ | exact Kd.V_nil _ _ _ _ _ | exact Kd.Q_nil _ _ _ _ _ | exact Kd.R_nil _ _ _ _ _⟩, ⟨by (with_reducible repeat (first | refine bkN ?_ _ | refine bkd ?_ | refine bka ?_ _)); refine bkf ?_ NB531_533.out _; (with_reducible repeat (first | refine bkN ?_ _ | refine bkd ?_ | refine bka ?_ _)); refine bkf ?_ NB531_533.out _; (with_reducible repeat (first | refine bkN ?_ _ | refine bkd ?_ | refine bka ?_ _)); refine bkf ?_ NB531_533.out _; (with_reducible repeat (first | refine bkN ?_ _ | refine bkd ?_ | refine bka ?_ _)); refine bkf ?_ NB531_533.out _; (with_reducible repeat (first | refine bkN ?_ _ | refine bkd ?_ | refine bka ?_ _)); exact BK531.out⟩, ⟨by (with_reducible repeat (first | refine bkN ?_ _ | refine bkd ?_ | refine bka ?_ _)); refine blk_put (cs := #[.int .i64 a3, .int .i64 a4, .int .i64 ((rd_T24 l0 0).f2), .slice none 0 0]) ?_ 3 _ rfl; (with_reducible repeat (first | refine bkN ?_ _ | refine bkd ?_ | refine bka ?_ _)); refine blk_put (cs := #[.int .i64 a3, .int .i64 a4, .int .i64 0, .slice none 0 0]) ?_ 2 _ rfl; (with_reducible repeat (first | refine bkN ?_ _ | refine bkd ?_ | refine bka ?_ _)); refine blk_put (cs := #[.int .i64 a3, .int .i64 0, .int .i64 0, .slice none 0 0]) ?_ 1 _ rfl; (with_reducible repeat (first | refine bkN ?_ _ | refine bkd ?_ | refine bka ?_ _)); refine blk_put (cs := #[.int .i64 0, .int .i64 0, .int .i64 0, .slice none 0 0]) ?_ 0 _ rfl; (with_reducible repeat (first | refine bkN ?_ _ | refine bkd ?_ | refine bka ?_ _)); exact BK533.out⟩, ⟨by repeat (first | (with_reducible first | exact HB.out | apply bwa | apply pwN | apply bwd | refine bws ?_ GE531.out | refine bws ?_ GE533.out) | exact HB.out)⟩⟩
  case round =>
   clear H'
   try clear p2
   try clear c5
   try clear p5
   try clear q5
   try clear hx5
   try clear qi5
   try clear c6
   try clear c6b0
   try clear c6b1
   try clear c7
   try clear c9
   try clear hcz10_0
   try clear hcz10_1
   try clear hcz10_2
   try clear hcz10_3
   try clear hfz10_0
   try clear hfz10_1
   try clear hfz10_2
   try clear hfz10_3
   try clear hx532_0
   try clear hx532_1
   try clear hx532_2
   try clear hx532_3
   try clear p532
   try clear q532
   obtain ⟨x12_1, x534003_1, u534003, rfl, HA, HK1, HO_534003, BK531, BK533, HB⟩ := hrel
   cases gk with
   | zero => exact absurd HA.out (by simp [r15_laid.l0])
   | succ k1 =>
    have H := HA.out
    clear HA
    simp only [r15_laid.l0] at H
    by_cases c11 : 0 < (l0.length : Int)
    ·rw [if_pos c11] at H
     have c11b0 : decide (0 < (l0.length : Int)) = true := decide_eq_true c11
     have c11b1 : decide (0 < l0.length) = true := decide_eq_true (by omega)
     clear c11
     by_cases c12 : x12_1 < (((rd_T24 l0 0).f3).length : Int)
     ·rw [if_pos c12] at H
      have c12b0 : decide (x12_1 < (((rd_T24 l0 0).f3).length : Int)) = true := decide_eq_true c12
      clear c12
      obtain ⟨ji13, hji13⟩ : ∃ j_ : Int, (wrap64 (a3 * a4)) = j_ := ⟨_, rfl⟩
      replace H : (if 0 ≤ (ji13) then (if (ji13 : Int).toNat ≤ 35184372088832 then (if x534003_1.length < 5864062014805 then (r15_laid.l0 k1 l0 a2 a3 a4 (wrap64 (x12_1 + 1)) a3 a4 ((rd_T24 l0 0).f2) (x534003_1 ++ [(List.replicate (ji13 : Int).toNat 0)])) else (none)) else (none)) else (none)) = some (r1, r2, r3, r4) := by first | (rw [hji13] at H; exact H) | (simp only [hji13] at H ⊢; exact H)
      have hji13w : (IntKind.i64.wrap (a3 * a4)) = ji13 := (i64_w _).trans hji13
      by_cases c14 : 0 ≤ (ji13)
      ·rw [if_pos c14] at H
       have c14b0 := eq_true c14
       have c14b1 : decide (0 ≤ (ji13)) = true := decide_eq_true c14
       clear c14
       by_cases c15 : (ji13 : Int).toNat ≤ 35184372088832
       ·rw [if_pos c15] at H
        have c15b0 := eq_true c15
        have c15b1 : decide ((ji13 : Int).toNat ≤ 35184372088832) = true := decide_eq_true c15
        clear c15
        obtain ⟨y535, hy535⟩ : ∃ y_ : List Int, y_ = (List.replicate (ji13 : Int).toNat 0) := ⟨_, rfl⟩
        replace H : (if x534003_1.length < 5864062014805 then (r15_laid.l0 k1 l0 a2 a3 a4 (wrap64 (x12_1 + 1)) a3 a4 ((rd_T24 l0 0).f2) (x534003_1 ++ [y535])) else (none)) = some (r1, r2, r3, r4) := by first | (rw [hy535]; with_reducible exact H) | (have H2_ := (Option.bind_some _ _).symm.trans H; rw [hy535]; with_reducible exact H2_) | (have H2_ := (Option.bind_some _ _).symm.trans H; with_reducible exact H2_) | with_reducible exact H | (rw [hy535]; exact H) | exact H
        have Ny535 := As0.mk hy535
        clear hy535
        by_cases c16 : x534003_1.length < 5864062014805
        ·rw [if_pos c16] at H
         have LMc16 := As0.mk c16
         clear c16
         obtain ⟨y538, hy538⟩ : ∃ y_ : List (List Int), y_ = (x534003_1 ++ [y535]) := ⟨_, rfl⟩
         replace H : (r15_laid.l0 k1 l0 a2 a3 a4 (wrap64 (x12_1 + 1)) a3 a4 ((rd_T24 l0 0).f2) y538) = some (r1, r2, r3, r4) := by first | (rw [hy538]; with_reducible exact H) | (have H2_ := (Option.bind_some _ _).symm.trans H; rw [hy538]; with_reducible exact H2_) | (have H2_ := (Option.bind_some _ _).symm.trans H; with_reducible exact H2_) | with_reducible exact H | (rw [hy538]; exact H) | exact H
         have Ny538 := As0.mk hy538
         clear hy538
         have H' := As0.mk H
         clear H
         have p534 : 0 ≤ (0 : Int) := (by omega)
         have q534 : 0 < (l0.length : Int) := of_decide_eq_true (by first | (with_reducible assumption) | assumption)
         obtain ⟨ad534, A534_3, c534_3, e534, hx534_0, hx534_1, hx534_2, hx534_3, hl534_3, hi534_3⟩ := at_T24 HR0.out 0 p534 q534
         obtain rfl : ad532 = ad534 := (by injection e534)
         have qi534 : (0 < l0.length) = True := eq_true (by omega)
         (try rw [show ((0 : Int)).toNat = 0 from rfl] at hx534_0)
         (try rw [show 0 * 4 = 0 from rfl] at hx534_0)
         (try rw [Addr.add_zero'] at hx534_0)
         (try rw [show ((0 : Int)).toNat = 0 from rfl] at hx534_1)
         (try rw [show 0 * 4 = 0 from rfl] at hx534_1)
         (try rw [Addr.add_zero'] at hx534_1)
         (try rw [show ((0 : Int)).toNat = 0 from rfl] at hx534_2)
         (try rw [show 0 * 4 = 0 from rfl] at hx534_2)
         (try rw [Addr.add_zero'] at hx534_2)
         (try rw [show ((0 : Int)).toNat = 0 from rfl] at hx534_3)
         (try rw [show 0 * 4 = 0 from rfl] at hx534_3)
         (try rw [Addr.add_zero'] at hx534_3)
         replace hx534_0 := (HB.out.cell (World.block_lt_of_cell? w _ hx534_0)).trans hx534_0
         replace hx534_1 := (HB.out.cell (World.block_lt_of_cell? w _ hx534_1)).trans hx534_1
         replace hx534_2 := (HB.out.cell (World.block_lt_of_cell? w _ hx534_2)).trans hx534_2
         replace hx534_3 := (HB.out.cell (World.block_lt_of_cell? w _ hx534_3)).trans hx534_3
         have HR534_3 := As0.mk hi534_3
         have HC534_3 := As0.mk hl534_3
         clear hi534_3 hl534_3
         replace p534 := eq_true p534
         replace q534 := eq_true q534
         try go_wp2
         have n0_ := As0.mk (Kd.S_drew HO_534003.out)
         have n1_ := As0.mk (bkd BK531.out)
         have n2_ := As0.mk (bkd BK533.out)
         have n3_ := As0.mk (bwd HB.out)
         clear HO_534003
         clear BK531
         clear BK533
         clear HB
         have HO_534003 := n0_
         have BK531 := n1_
         have BK533 := n2_
         have HB := n3_
         clear n0_ n1_ n2_ n3_
         refine start_ (n := 10) (S := fun w' => w'.cell? ⟨gb533, 0, none⟩ = some (.int .i64 a3) ∧ w'.cell? ⟨gb533, 1, none⟩ = some (.int .i64 a4) ∧ w'.cell? ⟨gb533, 2, none⟩ = some (.int .i64 ((rd_T24 l0 0).f2)) ∧ w'.cell? ⟨gb533, 3, none⟩ = some (u534003)) (ds := [9]) #[false, false, false, false, false, false, false, false, false, false] (by kernel_rfl) rfl rfl ⟨(bkc BK533.out 0).trans rfl, (bkc BK533.out 1).trans rfl, (bkc BK533.out 2).trans rfl, (bkc BK533.out 3).trans rfl⟩ (fun hHeld => ?_); refine with_tabW r15_laid.tab5 r15_laid.bits5 (fun HT_ HW_ => ?_)
         generalize wr.drew = w17 at HO_534003 BK531 BK533 HB hHeld ⊢
         refine pure_ (i := 0) (N := some 30) (v := ?_) (a' := ?_) #[true, false, false, false, false, false, false, false, false, false] rfl rfl (any_of HT_.out (by kernel_rfl)) (fun _ _ _ h => h) (Or.inl ⟨by rfl, ?_⟩) ?_ ?_
         rotate_left
         ·intro w'
          go_simp
          with_reducible rfl
         rotate_left
         ·simp only [Act.put, List.setIfInBounds_toArray, List.set_cons_zero, List.set_cons_succ, i64_w, i32_w]
          rfl
         refine pure_ (i := 2) (N := some 32) (v := ?_) (a' := ?_) #[true, false, true, false, false, false, false, false, false, false] rfl rfl (any_of HT_.out (by kernel_rfl)) (fun _ _ _ h => h) (Or.inl ⟨by rfl, ?_⟩) ?_ ?_
         rotate_left
         ·intro w'
          go_simp
          with_reducible rfl
         rotate_left
         ·simp only [Act.put, List.setIfInBounds_toArray, List.set_cons_zero, List.set_cons_succ, i64_w, i32_w]
          rfl
         refine pure_ (i := 3) (N := some 33) (v := ?_) (a' := ?_) #[true, false, true, true, false, false, false, false, false, false] rfl rfl (any_of HT_.out (by kernel_rfl)) (fun _ _ _ h => h) (Or.inl ⟨by rfl, ?_⟩) ?_ ?_
         rotate_left
         ·intro w'
          go_simp
          with_reducible rfl
         rotate_left
         ·simp only [Act.put, List.setIfInBounds_toArray, List.set_cons_zero, List.set_cons_succ, i64_w, i32_w]
          rfl
         refine pure_ (i := 4) (N := some 34) (v := ?_) (a' := ?_) #[true, false, true, true, true, false, false, false, false, false] rfl rfl (any_of HT_.out (by kernel_rfl)) (fun _ _ _ h => h) (Or.inl ⟨by rfl, ?_⟩) ?_ ?_
         rotate_left
         ·intro w'
          go_simp
          with_reducible rfl
         rotate_left
         ·simp only [Act.put, List.setIfInBounds_toArray, List.set_cons_zero, List.set_cons_succ, i64_w, i32_w]
          rfl
         refine take_ (i := 1) (N := some 31) (v := ?_) (a' := ?_) #[true, true, true, true, true, false, false, false, false, false] rfl rfl (take_ofW HT_.out HW_.out (by kernel_rfl)) (fun _ _ _ h => h) (Or.inl ⟨by rfl, ?_⟩) hHeld ?_ ?_
         rotate_left
         ·rintro w' ⟨s0, s1, s2, s3⟩
          go_simp
          with_reducible rfl
         rotate_left
         ·simp only [Act.put, List.setIfInBounds_toArray, List.set_cons_zero, List.set_cons_succ, i64_w, i32_w]
          rfl
         refine one_ (i := 5) (N := some 35) #[true, true, true, true, true, true, false, false, false, false] rfl rfl (one_of HT_.out (by kernel_rfl)) (by decide) (fun K hK => ?_)
         refine Kd.R_make_step (Kd.int .i64) _ 3 (by rfl) (N := 35) rfl 39 _ _ rfl ji13 rfl rfl Tryz.underlying39 (.int .i64 0) 8 info3 rfl (by decide) (by omega) 0 (ok := fun _ => True) (okp := fun _ => True) rfl (fun _ hk => hk) trivial (of_decide_eq_true (by first | (with_reducible assumption) | assumption)) (Nat.le_trans (Nat.mul_le_mul_right _ (of_decide_eq_true (by first | (with_reducible assumption) | assumption) : ji13.toNat ≤ 35184372088832)) (by omega)) (Below.refl _ _) (Nat.le_refl _) ?_
         intro v536 w18 ho19 hb hg_ hnew_
         clear hg_ hnew_
         (first | rw [← Ny535.out] at ho19 | (simp only [Int.reduceToNat] at ho19; rw [← Ny535.out] at ho19))
         have n0_ := As0.mk (Kd.S_elder' (by (with_reducible repeat (first | apply Kd.S_alloc | apply Kd.S_drewN | apply Kd.S_drew)); exact HO_534003.out) (Kd.R_base ho19) hb)
         have n1_ := As0.mk (Kd.R_lower ho19 (bwz (by repeat (first | (with_reducible first | exact HB.out | apply bwa | apply pwN | apply bwd | refine bws ?_ GE531.out | refine bws ?_ GE533.out) | exact HB.out))))
         have n2_ := As0.mk (bkb (g := gb531) (o := .cells #[.int .i64 0, .int .i64 0, .int .i64 0, .slice none 0 0] 24 (0, 0)) (by (with_reducible repeat (first | refine bkN ?_ _ | refine bkd ?_ | refine bka ?_ _)); exact BK531.out) hb)
         have n3_ := As0.mk (bkb (g := gb533) (o := .cells #[.int .i64 a3, .int .i64 a4, .int .i64 ((rd_T24 l0 0).f2), u534003] 24 (0, 0)) (by (with_reducible repeat (first | refine bkN ?_ _ | refine bkd ?_ | refine bka ?_ _)); exact BK533.out) hb)
         have n4_ := As0.mk (bwp (by repeat (first | (with_reducible first | exact HB.out | apply bwa | apply pwN | apply bwd | refine bws ?_ GE531.out | refine bws ?_ GE533.out) | exact HB.out)) hb)
         clear HO_534003
         clear BK531
         clear BK533
         clear HB
         have HO_534003 := n0_
         have HO537 := n1_
         have BK531 := n2_
         have BK533 := n3_
         have HB := n4_
         clear n0_ n1_ n2_ n3_ n4_
         clear hb ho19
         obtain ⟨Ao21, co21, eo21⟩ := Kd.R_slice HO537.out
         (first | subst eo21 | (injection eo21 with f1_ f2_ f3_; have f4_ := f1_.symm; have f5_ := f3_.symm; clear f1_ f2_ f3_; subst f4_; subst f5_))
         refine hK.out _ _ ⟨(bkc BK533.out 0).trans rfl, (bkc BK533.out 1).trans rfl, (bkc BK533.out 2).trans rfl, (bkc BK533.out 3).trans rfl⟩ (fun hHeld => ?_)
         clear hK K
         refine norm_ (a' := ?_) ?_ ?_
         rotate_left
         ·show Act.put _ (some 35) _ = _
          simp only [Act.put, List.setIfInBounds_toArray, List.set_cons_zero, List.set_cons_succ, i64_w, i32_w]
          rfl
         refine one_ (i := 6) (N := some 36) #[true, true, true, true, true, true, true, false, false, false] rfl rfl (one_of HT_.out (by kernel_rfl)) (by decide) (fun K hK => ?_)
         refine value_ (w1 := ?_) (v := ?_) (by rfl) rfl ?_ ?_
         rotate_left 2
         ·go_simp
          constructor
          ·rfl
          ·rfl
         refine hK.out _ _ ⟨(bkc (bka BK533.out _) 0).trans rfl, (bkc (bka BK533.out _) 1).trans rfl, (bkc (bka BK533.out _) 2).trans rfl, (bkc (bka BK533.out _) 3).trans rfl⟩ (fun hHeld => ?_)
         clear hK K
         refine norm_ (a' := ?_) ?_ ?_
         rotate_left
         ·show Act.put _ (some 36) _ = _
          simp only [Act.put, List.setIfInBounds_toArray, List.set_cons_zero, List.set_cons_succ, i64_w, i32_w]
          rfl
         refine one_ (i := 7) (N := some 37) #[true, true, true, true, true, true, true, true, false, false] rfl rfl (one_of HT_.out (by kernel_rfl)) (by decide) (fun K hK => ?_)
         refine Kd.S_append_step (Kd.slice 3 (Kd.int .i64)) (w0 := w) w.heap.size (by rfl) (.tmp 31) (.tmp 36) 22 39 (.slice none 0 0) 24 rfl Tryz.underlying22 info39 rfl (by decide) (by omega) u534003 x534003_1 y535 [.slice Ao21 y535.length co21] (fun _ => True) (fun k_ => some k_ = (.slice Ao21 y535.length co21 : Value).ownBlock) rfl rfl ?aP (fun k_ hk_ => ((Kd.R_mono (ok' := fun k_ => ((fun _ => True)) k_ ∧ some k_ ≠ (u534003 : Value).ownBlock) (Kd.R_apart' (HO537.out) (Kd.S_typed HO_534003.out) (by decide)) (fun k_ hk => ⟨trivial, hk.2⟩))).1 k_ hk_.symm) ?aF ?aO ?aB ?aS ?aL ?_
         (case aP => exact Kd.M_row (Kd.R_mono (Kd.R_tight rfl (Kd.R_mono (ok' := fun k_ => ((fun _ => True)) k_ ∧ some k_ ≠ (u534003 : Value).ownBlock) (Kd.R_apart' (HO537.out) (Kd.S_typed HO_534003.out) (by decide)) (fun k_ hk => ⟨trivial, hk.2⟩))) (fun _ h_ => h_)))
         (case aB => exact (by repeat (first | (with_reducible first | exact HB.out | apply bwa | apply pwN | apply bwd | refine bws ?_ GE531.out | refine bws ?_ GE533.out) | exact HB.out)))
         (case aF => exact (fun _ _ => trivial))
         (case aO => exact (by (with_reducible repeat (first | apply Kd.S_alloc | apply Kd.S_drewN | apply Kd.S_drew)); exact Kd.S_mono HO_534003.out (fun k_ hk => ⟨trivial, fun e_ => hk.2 e_⟩)))
         (case aS => exact (bwz (by repeat (first | (with_reducible first | exact HB.out | apply bwa | apply pwN | apply bwd | refine bws ?_ GE531.out | refine bws ?_ GE533.out) | exact HB.out))))
         (case aL => have := LMc16.out; omega)
         intro v539 w20 ho hb hg hat
         rw [← Ny538.out] at ho
         have n0_ := As0.mk (blk_grown (g := gb531) (o := .cells #[.int .i64 0, .int .i64 0, .int .i64 0, .slice none 0 0] 24 (0, 0)) (by (with_reducible repeat (first | refine bkN ?_ _ | refine bkd ?_ | refine bka ?_ _)); exact BK531.out) hg (Kd.S_ne HO_534003.out BK531.out (by decide)))
         have n1_ := As0.mk (blk_grown (g := gb533) (o := .cells #[.int .i64 a3, .int .i64 a4, .int .i64 ((rd_T24 l0 0).f2), u534003] 24 (0, 0)) (by (with_reducible repeat (first | refine bkN ?_ _ | refine bkd ?_ | refine bka ?_ _)); exact BK533.out) hg (Kd.S_ne HO_534003.out BK533.out (by decide)))
         have n2_ := As0.mk (hb)
         have n3_ := As0.mk (ho)
         clear BK531
         clear BK533
         clear HB
         clear HO_534003
         clear HO537
         have BK531 := n0_
         have BK533 := n1_
         have HB := n2_
         have HO540 := n3_
         clear n0_ n1_ n2_ n3_
         clear ho hb hg hat
         obtain ⟨Ao22, co22, eo22⟩ := Kd.S_slice HO540.out
         (first | subst eo22 | (injection eo22 with f1_ f2_ f3_; have f4_ := f1_.symm; have f5_ := f3_.symm; clear f1_ f2_ f3_; subst f4_; subst f5_))
         refine hK.out _ _ ⟨(bkc BK533.out 0).trans rfl, (bkc BK533.out 1).trans rfl, (bkc BK533.out 2).trans rfl, (bkc BK533.out 3).trans rfl⟩ (fun hHeld => ?_)
         clear hK K
         refine norm_ (a' := ?_) ?_ ?_
         rotate_left
         ·show Act.put _ (some 37) _ = _
          simp only [Act.put, List.setIfInBounds_toArray, List.set_cons_zero, List.set_cons_succ, i64_w, i32_w]
          rfl
         refine pure_ (i := 8) (N := some 38) (v := ?_) (a' := ?_) #[true, true, true, true, true, true, true, true, true, false] rfl rfl (any_of HT_.out (by kernel_rfl)) (fun _ _ _ h => h) (Or.inl ⟨by rfl, ?_⟩) ?_ ?_
         rotate_left
         ·intro w'
          go_simp
          with_reducible rfl
         rotate_left
         ·simp only [Act.put, List.setIfInBounds_toArray, List.set_cons_zero, List.set_cons_succ, i64_w, i32_w]
          rfl
         refine last_ (i := 9) (N := none) #[true, true, true, true, true, true, true, true, true, true] rfl rfl (one_of HT_.out (by kernel_rfl)) (by decide) (fun K hK => ?_)
         have hs23 : w20.cell? ⟨gb533, 3, none⟩ = some (u534003) := (bkc BK533.out 3).trans rfl
         have hfs23 := bkz BK533.out 3
         have hns23_0 := NB531_533.out
         have hms23_0 := NB533_531.out
         refine skip_ (w1 := ?_) (by rfl) rfl ?_ ?_
         rotate_left
         ·go_simp
          rfl
         refine hK.out _ _ ?_
         clear hK K
         refine done_ (done_of HT_.out (by kernel_rfl)) ?_
         try go_wp2
         go_roundg k1
         case measure => have := HK1.out; omega
         case rel => exact ⟨(wrap64 (x12_1 + 1)), (y538), (.slice Ao22 y538.length co22), (by first | rfl | (simp; done) | (simp [*]; done)), H', ⟨by have := HK1.out; omega⟩, ⟨by (with_reducible repeat (first | apply Kd.S_alloc | apply Kd.S_drewN | apply Kd.S_drew)); exact Kd.S_mono (Kd.S_far (p := ⟨gb533, 3, none⟩) (Kd.S_types HO540.out BK533.out (by decide)) (fun _ hk => hk.2) (.slice Ao22 y538.length co22)) (fun _ hk => trivial)⟩, ⟨by (with_reducible repeat (first | refine bkN ?_ _ | refine bkd ?_ | refine bka ?_ _)); refine bkf ?_ NB531_533.out _; (with_reducible repeat (first | refine bkN ?_ _ | refine bkd ?_ | refine bka ?_ _)); exact BK531.out⟩, ⟨by (with_reducible repeat (first | refine bkN ?_ _ | refine bkd ?_ | refine bka ?_ _)); refine blk_put (cs := #[.int .i64 a3, .int .i64 a4, .int .i64 ((rd_T24 l0 0).f2), u534003]) ?_ 3 _ rfl; (with_reducible repeat (first | refine bkN ?_ _ | refine bkd ?_ | refine bka ?_ _)); exact BK533.out⟩, ⟨by repeat (first | (with_reducible first | exact HB.out | apply bwa | apply pwN | apply bwd | refine bws ?_ GE531.out | refine bws ?_ GE533.out) | exact HB.out)⟩⟩
        ·rw [if_neg c16] at H
         exact absurd H (by simp)
       ·rw [if_neg c15] at H
        exact absurd H (by simp)
      ·rw [if_neg c14] at H
       exact absurd H (by simp)
     ·rw [if_neg c12] at H
      have c12b0 : decide (x12_1 < (((rd_T24 l0 0).f3).length : Int)) = false := decide_eq_false c12
      clear c12
      have H' := As0.mk H
      clear H
      have p534 : 0 ≤ (0 : Int) := (by omega)
      have q534 : 0 < (l0.length : Int) := of_decide_eq_true (by first | (with_reducible assumption) | assumption)
      obtain ⟨ad534, A534_3, c534_3, e534, hx534_0, hx534_1, hx534_2, hx534_3, hl534_3, hi534_3⟩ := at_T24 HR0.out 0 p534 q534
      obtain rfl : ad532 = ad534 := (by injection e534)
      have qi534 : (0 < l0.length) = True := eq_true (by omega)
      (try rw [show ((0 : Int)).toNat = 0 from rfl] at hx534_0)
      (try rw [show 0 * 4 = 0 from rfl] at hx534_0)
      (try rw [Addr.add_zero'] at hx534_0)
      (try rw [show ((0 : Int)).toNat = 0 from rfl] at hx534_1)
      (try rw [show 0 * 4 = 0 from rfl] at hx534_1)
      (try rw [Addr.add_zero'] at hx534_1)
      (try rw [show ((0 : Int)).toNat = 0 from rfl] at hx534_2)
      (try rw [show 0 * 4 = 0 from rfl] at hx534_2)
      (try rw [Addr.add_zero'] at hx534_2)
      (try rw [show ((0 : Int)).toNat = 0 from rfl] at hx534_3)
      (try rw [show 0 * 4 = 0 from rfl] at hx534_3)
      (try rw [Addr.add_zero'] at hx534_3)
      replace hx534_0 := (HB.out.cell (World.block_lt_of_cell? w _ hx534_0)).trans hx534_0
      replace hx534_1 := (HB.out.cell (World.block_lt_of_cell? w _ hx534_1)).trans hx534_1
      replace hx534_2 := (HB.out.cell (World.block_lt_of_cell? w _ hx534_2)).trans hx534_2
      replace hx534_3 := (HB.out.cell (World.block_lt_of_cell? w _ hx534_3)).trans hx534_3
      have HR534_3 := As0.mk hi534_3
      have HC534_3 := As0.mk hl534_3
      clear hi534_3 hl534_3
      replace p534 := eq_true p534
      replace q534 := eq_true q534
      go_wp2
      go_loopg [13] k1 (fun kq v13 w' => ∃ (x13_2 : Int) (x534000_2 : Int) (x534001_2 : Int) (x534002_2 : Int) (x534003_2 : List (List Int)) (u534003 : Value), v13 = .int .i64 x13_2 ∧ As0 (r15_laid.l1 kq l0 a2 x13_2 x534000_2 x534001_2 x534002_2 x534003_2 = some (r1, r2, r3, r4)) ∧ As0 (kq ≤ k1) ∧ As0 (Kd.S (Kd.slice 3 (Kd.int .i64)) 39 w' w.heap.size (fun _ => True) u534003 x534003_2) ∧ As0 (w'.heap[gb531]? = some (.cells #[.int .i64 0, .int .i64 0, .int .i64 0, (.slice none 0 0)] 24 (0, 0))) ∧ As0 (w'.heap[gb533]? = some (.cells #[.int .i64 x534000_2, .int .i64 x534001_2, .int .i64 x534002_2, u534003] 24 (0, 0))) ∧ As0 (Below w.heap.size w w'))
      case atStart => exact ⟨(0), (a3), (a4), (((rd_T24 l0 0).f2)), (x534003_1), (u534003), (by first | rfl | (simp; done) | (simp [*]; done)), H', ⟨Nat.le_refl _⟩, ⟨by (with_reducible repeat (first | apply Kd.S_alloc | apply Kd.S_drewN | apply Kd.S_drew)); exact HO_534003.out⟩, ⟨by (with_reducible repeat (first | refine bkN ?_ _ | refine bkd ?_ | refine bka ?_ _)); exact BK531.out⟩, ⟨by (with_reducible repeat (first | refine bkN ?_ _ | refine bkd ?_ | refine bka ?_ _)); exact BK533.out⟩, ⟨by repeat (first | (with_reducible first | exact HB.out | apply bwa | apply pwN | apply bwd | refine bws ?_ GE531.out | refine bws ?_ GE533.out) | exact HB.out)⟩⟩
      case round =>
       clear H'
       try clear c1
       try clear p2
       try clear c5
       try clear p5
       try clear q5
       try clear hx5
       try clear qi5
       try clear c6
       try clear c6b0
       try clear c6b1
       try clear p6
       try clear c7
       try clear c9
       try clear c11
       try clear c11b0
       try clear c11b1
       try clear c12
       try clear c12b0
       try clear c14
       try clear c14b0
       try clear c14b1
       try clear c15
       try clear c15b0
       try clear c15b1
       try clear c16
       try clear hcz10_0
       try clear hcz10_1
       try clear hcz10_2
       try clear hcz10_3
       try clear hfz10_0
       try clear hfz10_1
       try clear hfz10_2
       try clear hfz10_3
       try clear hx532_0
       try clear hx532_1
       try clear hx532_2
       try clear hx532_3
       try clear hx534_0
       try clear hx534_1
       try clear hx534_2
       try clear hx534_3
       try clear p2
       try clear p5
       try clear p532
       try clear p534
       try clear q5
       try clear q532
       try clear q534
       obtain ⟨x13_2, x534000_2, x534001_2, x534002_2, x534003_2, u534003, rfl, HA, HK2, HO_534003, BK531, BK533, HB⟩ := hrel
       cases gk with
       | zero => exact absurd HA.out (by simp [r15_laid.l1])
       | succ k2 =>
        have H := HA.out
        clear HA
        simp only [r15_laid.l1] at H
        by_cases c24 : x13_2 < (l0.length : Int)
        ·rw [if_pos c24] at H
         have c24b0 : decide (x13_2 < (l0.length : Int)) = true := decide_eq_true c24
         clear c24
         by_cases c25 : 0 ≤ x13_2
         ·rw [if_pos c25] at H
          have c25b0 : decide (0 ≤ x13_2) = true := decide_eq_true c25
          clear c25
          by_cases c26 : a2 = 0
          ·rw [if_pos c26] at H
           exact absurd H (by simp)
          ·rw [if_neg c26] at H
           have c26b0 : (a2 == 0) = false := beq_eq_false_iff_ne.mpr c26
           have c26b1 : (a2 != 0) = true := bne_iff_ne.mpr c26
           by_cases c27 : 0 < (l0.length : Int)
           ·rw [if_pos c27] at H
            have c27b0 : decide (0 < (l0.length : Int)) = true := decide_eq_true c27
            have c27b1 : decide (0 < l0.length) = true := decide_eq_true (by omega)
            clear c27
            replace H := Option.bind_eq_some_iff.mp H
            obtain ⟨⟨t544, t545, t546, t547⟩, A280, H⟩ := H
            replace H : (r15_laid.l1 k2 l0 a2 (wrap64 (x13_2 + 1)) t544 t545 t546 t547) = some (r1, r2, r3, r4) := H
            have A28 := As0.mk A280
            clear A280
            have H' := As0.mk H
            clear H
            try go_wp2
            have n0_ := As0.mk (Kd.S_drew HO_534003.out)
            have n1_ := As0.mk (bkd BK531.out)
            have n2_ := As0.mk (bkd BK533.out)
            have n3_ := As0.mk (bwd HB.out)
            clear HO_534003
            clear BK531
            clear BK533
            clear HB
            have HO_534003 := n0_
            have BK531 := n1_
            have BK533 := n2_
            have HB := n3_
            clear n0_ n1_ n2_ n3_
            have p541 : 0 ≤ (x13_2 : Int) := of_decide_eq_true (by first | (with_reducible assumption) | assumption)
            have q541 : x13_2 < (l0.length : Int) := of_decide_eq_true (by first | (with_reducible assumption) | assumption)
            obtain ⟨ad541, A541_3, c541_3, e541, hx541_0, hx541_1, hx541_2, hx541_3, hl541_3, hi541_3⟩ := at_T24 HR0.out x13_2 p541 q541
            have hw541_3 := hx541_3
            have hw541_2 := hx541_2
            have hw541_1 := hx541_1
            have hw541_0 := hx541_0
            obtain rfl : ad532 = ad541 := (by injection e541)
            replace hx541_0 := (HB.out.cell (World.block_lt_of_cell? w _ hx541_0)).trans hx541_0
            replace hx541_1 := (HB.out.cell (World.block_lt_of_cell? w _ hx541_1)).trans hx541_1
            replace hx541_2 := (HB.out.cell (World.block_lt_of_cell? w _ hx541_2)).trans hx541_2
            replace hx541_3 := (HB.out.cell (World.block_lt_of_cell? w _ hx541_3)).trans hx541_3
            have HR541_3 := As0.mk hi541_3
            have HC541_3 := As0.mk hl541_3
            clear hi541_3 hl541_3
            replace p541 := eq_true p541
            replace q541 := eq_true q541
            have p542 : 0 ≤ (0 : Int) := (by omega)
            have q542 : 0 < (l0.length : Int) := of_decide_eq_true (by first | (with_reducible assumption) | assumption)
            obtain ⟨ad542, A542_3, c542_3, e542, hx542_0, hx542_1, hx542_2, hx542_3, hl542_3, hi542_3⟩ := at_T24 HR0.out 0 p542 q542
            have hw542_3 := hx542_3
            (try rw [show ((0 : Int)).toNat = 0 from rfl] at hw542_3)
            (try rw [show 0 * 4 = 0 from rfl] at hw542_3)
            (try rw [Addr.add_zero'] at hw542_3)
            have hw542_2 := hx542_2
            (try rw [show ((0 : Int)).toNat = 0 from rfl] at hw542_2)
            (try rw [show 0 * 4 = 0 from rfl] at hw542_2)
            (try rw [Addr.add_zero'] at hw542_2)
            have hw542_1 := hx542_1
            (try rw [show ((0 : Int)).toNat = 0 from rfl] at hw542_1)
            (try rw [show 0 * 4 = 0 from rfl] at hw542_1)
            (try rw [Addr.add_zero'] at hw542_1)
            have hw542_0 := hx542_0
            (try rw [show ((0 : Int)).toNat = 0 from rfl] at hw542_0)
            (try rw [show 0 * 4 = 0 from rfl] at hw542_0)
            (try rw [Addr.add_zero'] at hw542_0)
            obtain rfl : ad532 = ad542 := (by injection e542)
            have qi542 : (0 < l0.length) = True := eq_true (by omega)
            (try rw [show ((0 : Int)).toNat = 0 from rfl] at hx542_0)
            (try rw [show 0 * 4 = 0 from rfl] at hx542_0)
            (try rw [Addr.add_zero'] at hx542_0)
            (try rw [show ((0 : Int)).toNat = 0 from rfl] at hx542_1)
            (try rw [show 0 * 4 = 0 from rfl] at hx542_1)
            (try rw [Addr.add_zero'] at hx542_1)
            (try rw [show ((0 : Int)).toNat = 0 from rfl] at hx542_2)
            (try rw [show 0 * 4 = 0 from rfl] at hx542_2)
            (try rw [Addr.add_zero'] at hx542_2)
            (try rw [show ((0 : Int)).toNat = 0 from rfl] at hx542_3)
            (try rw [show 0 * 4 = 0 from rfl] at hx542_3)
            (try rw [Addr.add_zero'] at hx542_3)
            replace hx542_0 := (HB.out.cell (World.block_lt_of_cell? w _ hx542_0)).trans hx542_0
            replace hx542_1 := (HB.out.cell (World.block_lt_of_cell? w _ hx542_1)).trans hx542_1
            replace hx542_2 := (HB.out.cell (World.block_lt_of_cell? w _ hx542_2)).trans hx542_2
            replace hx542_3 := (HB.out.cell (World.block_lt_of_cell? w _ hx542_3)).trans hx542_3
            have HR542_3 := As0.mk hi542_3
            have HC542_3 := As0.mk hl542_3
            clear hi542_3 hl542_3
            replace p542 := eq_true p542
            replace q542 := eq_true q542
            have p543 : 0 ≤ (0 : Int) := (by omega)
            have q543 : 0 < (l0.length : Int) := of_decide_eq_true (by first | (with_reducible assumption) | assumption)
            obtain ⟨ad543, A543_3, c543_3, e543, hx543_0, hx543_1, hx543_2, hx543_3, hl543_3, hi543_3⟩ := at_T24 HR0.out 0 p543 q543
            have hw543_3 := hx543_3
            (try rw [show ((0 : Int)).toNat = 0 from rfl] at hw543_3)
            (try rw [show 0 * 4 = 0 from rfl] at hw543_3)
            (try rw [Addr.add_zero'] at hw543_3)
            have hw543_2 := hx543_2
            (try rw [show ((0 : Int)).toNat = 0 from rfl] at hw543_2)
            (try rw [show 0 * 4 = 0 from rfl] at hw543_2)
            (try rw [Addr.add_zero'] at hw543_2)
            have hw543_1 := hx543_1
            (try rw [show ((0 : Int)).toNat = 0 from rfl] at hw543_1)
            (try rw [show 0 * 4 = 0 from rfl] at hw543_1)
            (try rw [Addr.add_zero'] at hw543_1)
            have hw543_0 := hx543_0
            (try rw [show ((0 : Int)).toNat = 0 from rfl] at hw543_0)
            (try rw [show 0 * 4 = 0 from rfl] at hw543_0)
            (try rw [Addr.add_zero'] at hw543_0)
            obtain rfl : ad532 = ad543 := (by injection e543)
            have qi543 : (0 < l0.length) = True := eq_true (by omega)
            (try rw [show ((0 : Int)).toNat = 0 from rfl] at hx543_0)
            (try rw [show 0 * 4 = 0 from rfl] at hx543_0)
            (try rw [Addr.add_zero'] at hx543_0)
            (try rw [show ((0 : Int)).toNat = 0 from rfl] at hx543_1)
            (try rw [show 0 * 4 = 0 from rfl] at hx543_1)
            (try rw [Addr.add_zero'] at hx543_1)
            (try rw [show ((0 : Int)).toNat = 0 from rfl] at hx543_2)
            (try rw [show 0 * 4 = 0 from rfl] at hx543_2)
            (try rw [Addr.add_zero'] at hx543_2)
            (try rw [show ((0 : Int)).toNat = 0 from rfl] at hx543_3)
            (try rw [show 0 * 4 = 0 from rfl] at hx543_3)
            (try rw [Addr.add_zero'] at hx543_3)
            replace hx543_0 := (HB.out.cell (World.block_lt_of_cell? w _ hx543_0)).trans hx543_0
            replace hx543_1 := (HB.out.cell (World.block_lt_of_cell? w _ hx543_1)).trans hx543_1
            replace hx543_2 := (HB.out.cell (World.block_lt_of_cell? w _ hx543_2)).trans hx543_2
            replace hx543_3 := (HB.out.cell (World.block_lt_of_cell? w _ hx543_3)).trans hx543_3
            have HR543_3 := As0.mk hi543_3
            have HC543_3 := As0.mk hl543_3
            clear hi543_3 hl543_3
            replace p543 := eq_true p543
            replace q543 := eq_true q543
            have ea_ := Option.some.inj (hx542_3.symm.trans hx543_3)
            injection ea_ with ea_ en_ ec_
            subst ea_
            subst ec_
            clear en_
            obtain ⟨Ao30, co30, eo30⟩ := Kd.S_slice HO_534003.out
            (first | subst eo30 | (injection eo30 with f1_ f2_ f3_; have f4_ := f1_.symm; have f5_ := f3_.symm; clear f1_ f2_ f3_; subst f4_; subst f5_))
            refine start_ (n := 23) (S := fun w' => w'.cell? ⟨gb533, 0, none⟩ = some (.int .i64 x534000_2) ∧ w'.cell? ⟨gb533, 1, none⟩ = some (.int .i64 x534001_2) ∧ w'.cell? ⟨gb533, 2, none⟩ = some (.int .i64 x534002_2) ∧ w'.cell? ⟨gb533, 3, none⟩ = some (.slice Ao30 x534003_2.length co30) ∧ w'.cell? (ad532.add ((x13_2).toNat * 4)) = some (.int .i64 ((rd_T24 l0 x13_2).f0)) ∧ w'.cell? ⟨(ad532.add ((x13_2).toNat * 4)).block, (ad532.add ((x13_2).toNat * 4)).off + 1, none⟩ = some (.int .i64 ((rd_T24 l0 x13_2).f1)) ∧ w'.cell? ⟨(ad532.add ((x13_2).toNat * 4)).block, (ad532.add ((x13_2).toNat * 4)).off + 2, none⟩ = some (.int .i64 ((rd_T24 l0 x13_2).f2)) ∧ w'.cell? ⟨(ad532.add ((x13_2).toNat * 4)).block, (ad532.add ((x13_2).toNat * 4)).off + 3, none⟩ = some (.slice A541_3 ((rd_T24 l0 x13_2).f3).length c541_3) ∧ w'.cell? ad532 = some (.int .i64 ((rd_T24 l0 0).f0)) ∧ w'.cell? ⟨ad532.block, ad532.off + 1, none⟩ = some (.int .i64 ((rd_T24 l0 0).f1)) ∧ w'.cell? ⟨ad532.block, ad532.off + 2, none⟩ = some (.int .i64 ((rd_T24 l0 0).f2)) ∧ w'.cell? ⟨ad532.block, ad532.off + 3, none⟩ = some (.slice A542_3 ((rd_T24 l0 0).f3).length c542_3) ∧ w'.cell? ad532 = some (.int .i64 ((rd_T24 l0 0).f0)) ∧ w'.cell? ⟨ad532.block, ad532.off + 1, none⟩ = some (.int .i64 ((rd_T24 l0 0).f1)) ∧ w'.cell? ⟨ad532.block, ad532.off + 2, none⟩ = some (.int .i64 ((rd_T24 l0 0).f2)) ∧ w'.cell? ⟨ad532.block, ad532.off + 3, none⟩ = some (.slice A542_3 ((rd_T24 l0 0).f3).length c542_3)) (ds := [22]) #[false, false, false, false, false, false, false, false, false, false, false, false, false, false, false, false, false, false, false, false, false, false, false] (by kernel_rfl) rfl rfl ⟨(bkc BK533.out 0).trans rfl, (bkc BK533.out 1).trans rfl, (bkc BK533.out 2).trans rfl, (bkc BK533.out 3).trans rfl, ((HB.out.cell (World.block_lt_of_cell? w _ hw541_0)).trans hw541_0), ((HB.out.cell (World.block_lt_of_cell? w _ hw541_1)).trans hw541_1), ((HB.out.cell (World.block_lt_of_cell? w _ hw541_2)).trans hw541_2), ((HB.out.cell (World.block_lt_of_cell? w _ hw541_3)).trans hw541_3), ((HB.out.cell (World.block_lt_of_cell? w _ hw542_0)).trans hw542_0), ((HB.out.cell (World.block_lt_of_cell? w _ hw542_1)).trans hw542_1), ((HB.out.cell (World.block_lt_of_cell? w _ hw542_2)).trans hw542_2), ((HB.out.cell (World.block_lt_of_cell? w _ hw542_3)).trans hw542_3), ((HB.out.cell (World.block_lt_of_cell? w _ hw543_0)).trans hw543_0), ((HB.out.cell (World.block_lt_of_cell? w _ hw543_1)).trans hw543_1), ((HB.out.cell (World.block_lt_of_cell? w _ hw543_2)).trans hw543_2), ((HB.out.cell (World.block_lt_of_cell? w _ hw543_3)).trans hw543_3)⟩ (fun hHeld => ?_); refine with_tabW r15_laid.tab9 r15_laid.bits9 (fun HT_ HW_ => ?_)
            generalize wr.drew = w29 at HO_534003 BK531 BK533 HB HR541_3 HR542_3 HR543_3 hx541_0 hx541_1 hx541_2 hx541_3 hx542_0 hx542_1 hx542_2 hx542_3 hx543_0 hx543_1 hx543_2 hx543_3 hHeld ⊢
            refine pure_ (i := 1) (N := some 46) (v := ?_) (a' := ?_) #[false, true, false, false, false, false, false, false, false, false, false, false, false, false, false, false, false, false, false, false, false, false, false] rfl rfl (any_of HT_.out (by kernel_rfl)) (fun _ _ _ h => h) (Or.inl ⟨by rfl, ?_⟩) ?_ ?_
            rotate_left
            ·intro w'
             go_simp
             with_reducible rfl
            rotate_left
            ·simp only [Act.put, List.setIfInBounds_toArray, List.set_cons_zero, List.set_cons_succ, i64_w, i32_w]
             rfl
            refine pure_ (i := 2) (N := some 47) (v := ?_) (a' := ?_) #[false, true, true, false, false, false, false, false, false, false, false, false, false, false, false, false, false, false, false, false, false, false, false] rfl rfl (any_of HT_.out (by kernel_rfl)) (fun _ _ _ h => h) (Or.inl ⟨by rfl, ?_⟩) ?_ ?_
            rotate_left
            ·intro w'
             go_simp
             with_reducible rfl
            rotate_left
            ·simp only [Act.put, List.setIfInBounds_toArray, List.set_cons_zero, List.set_cons_succ, i64_w, i32_w]
             rfl
            refine pure_ (i := 3) (N := some 48) (v := ?_) (a' := ?_) #[false, true, true, true, false, false, false, false, false, false, false, false, false, false, false, false, false, false, false, false, false, false, false] rfl rfl (any_of HT_.out (by kernel_rfl)) (fun _ _ _ h => h) (Or.inl ⟨by rfl, ?_⟩) ?_ ?_
            rotate_left
            ·intro w'
             go_simp
             with_reducible rfl
            rotate_left
            ·simp only [Act.put, List.setIfInBounds_toArray, List.set_cons_zero, List.set_cons_succ, i64_w, i32_w]
             rfl
            refine pure_ (i := 5) (N := some 50) (v := ?_) (a' := ?_) #[false, true, true, true, false, true, false, false, false, false, false, false, false, false, false, false, false, false, false, false, false, false, false] rfl rfl (any_of HT_.out (by kernel_rfl)) (fun _ _ _ h => h) (Or.inl ⟨by rfl, ?_⟩) ?_ ?_
            rotate_left
            ·intro w'
             go_simp
             with_reducible rfl
            rotate_left
            ·simp only [Act.put, List.setIfInBounds_toArray, List.set_cons_zero, List.set_cons_succ, i64_w, i32_w]
             rfl
            refine pure_ (i := 6) (N := some 51) (v := ?_) (a' := ?_) #[false, true, true, true, false, true, true, false, false, false, false, false, false, false, false, false, false, false, false, false, false, false, false] rfl rfl (any_of HT_.out (by kernel_rfl)) (fun _ _ _ h => h) (Or.inl ⟨by rfl, ?_⟩) ?_ ?_
            rotate_left
            ·intro w'
             go_simp
             with_reducible rfl
            rotate_left
            ·simp only [Act.put, List.setIfInBounds_toArray, List.set_cons_zero, List.set_cons_succ, i64_w, i32_w]
             rfl
            refine pure_ (i := 7) (N := some 52) (v := ?_) (a' := ?_) #[false, true, true, true, false, true, true, true, false, false, false, false, false, false, false, false, false, false, false, false, false, false, false] rfl rfl (any_of HT_.out (by kernel_rfl)) (fun _ _ _ h => h) (Or.inl ⟨by rfl, ?_⟩) ?_ ?_
            rotate_left
            ·intro w'
             go_simp
             with_reducible rfl
            rotate_left
            ·simp only [Act.put, List.setIfInBounds_toArray, List.set_cons_zero, List.set_cons_succ, i64_w, i32_w]
             rfl
            refine pure_ (i := 8) (N := some 53) (v := ?_) (a' := ?_) #[false, true, true, true, false, true, true, true, true, false, false, false, false, false, false, false, false, false, false, false, false, false, false] rfl rfl (any_of HT_.out (by kernel_rfl)) (fun _ _ _ h => h) (Or.inl ⟨by rfl, ?_⟩) ?_ ?_
            rotate_left
            ·intro w'
             go_simp
             with_reducible rfl
            rotate_left
            ·simp only [Act.put, List.setIfInBounds_toArray, List.set_cons_zero, List.set_cons_succ, i64_w, i32_w]
             rfl
            refine pure_ (i := 9) (N := some 54) (v := ?_) (a' := ?_) #[false, true, true, true, false, true, true, true, true, true, false, false, false, false, false, false, false, false, false, false, false, false, false] rfl rfl (any_of HT_.out (by kernel_rfl)) (fun _ _ _ h => h) (Or.inl ⟨by rfl, ?_⟩) ?_ ?_
            rotate_left
            ·intro w'
             go_simp
             with_reducible rfl
            rotate_left
            ·simp only [Act.put, List.setIfInBounds_toArray, List.set_cons_zero, List.set_cons_succ, i64_w, i32_w]
             rfl
            refine pure_ (i := 10) (N := some 55) (v := ?_) (a' := ?_) #[false, true, true, true, false, true, true, true, true, true, true, false, false, false, false, false, false, false, false, false, false, false, false] rfl rfl (any_of HT_.out (by kernel_rfl)) (fun _ _ _ h => h) (Or.inl ⟨by rfl, ?_⟩) ?_ ?_
            rotate_left
            ·intro w'
             go_simp
             with_reducible rfl
            rotate_left
            ·simp only [Act.put, List.setIfInBounds_toArray, List.set_cons_zero, List.set_cons_succ, i64_w, i32_w]
             rfl
            refine pure_ (i := 13) (N := some 58) (v := ?_) (a' := ?_) #[false, true, true, true, false, true, true, true, true, true, true, false, false, true, false, false, false, false, false, false, false, false, false] rfl rfl (any_of HT_.out (by kernel_rfl)) (fun _ _ _ h => h) (Or.inl ⟨by rfl, ?_⟩) ?_ ?_
            rotate_left
            ·intro w'
             go_simp
             with_reducible rfl
            rotate_left
            ·simp only [Act.put, List.setIfInBounds_toArray, List.set_cons_zero, List.set_cons_succ, i64_w, i32_w]
             rfl
            refine pure_ (i := 14) (N := some 59) (v := ?_) (a' := ?_) #[false, true, true, true, false, true, true, true, true, true, true, false, false, true, true, false, false, false, false, false, false, false, false] rfl rfl (any_of HT_.out (by kernel_rfl)) (fun _ _ _ h => h) (Or.inl ⟨by rfl, ?_⟩) ?_ ?_
            rotate_left
            ·intro w'
             go_simp
             with_reducible rfl
            rotate_left
            ·simp only [Act.put, List.setIfInBounds_toArray, List.set_cons_zero, List.set_cons_succ, i64_w, i32_w]
             rfl
            refine pure_ (i := 15) (N := some 60) (v := ?_) (a' := ?_) #[false, true, true, true, false, true, true, true, true, true, true, false, false, true, true, true, false, false, false, false, false, false, false] rfl rfl (any_of HT_.out (by kernel_rfl)) (fun _ _ _ h => h) (Or.inl ⟨by rfl, ?_⟩) ?_ ?_
            rotate_left
            ·intro w'
             go_simp
             with_reducible rfl
            rotate_left
            ·simp only [Act.put, List.setIfInBounds_toArray, List.set_cons_zero, List.set_cons_succ, i64_w, i32_w]
             rfl
            refine pure_ (i := 16) (N := some 61) (v := ?_) (a' := ?_) #[false, true, true, true, false, true, true, true, true, true, true, false, false, true, true, true, true, false, false, false, false, false, false] rfl rfl (any_of HT_.out (by kernel_rfl)) (fun _ _ _ h => h) (Or.inl ⟨by rfl, ?_⟩) ?_ ?_
            rotate_left
            ·intro w'
             go_simp
             with_reducible rfl
            rotate_left
            ·simp only [Act.put, List.setIfInBounds_toArray, List.set_cons_zero, List.set_cons_succ, i64_w, i32_w]
             rfl
            refine pure_ (i := 17) (N := some 62) (v := ?_) (a' := ?_) #[false, true, true, true, false, true, true, true, true, true, true, false, false, true, true, true, true, true, false, false, false, false, false] rfl rfl (any_of HT_.out (by kernel_rfl)) (fun _ _ _ h => h) (Or.inl ⟨by rfl, ?_⟩) ?_ ?_
            rotate_left
            ·intro w'
             go_simp
             with_reducible rfl
            rotate_left
            ·simp only [Act.put, List.setIfInBounds_toArray, List.set_cons_zero, List.set_cons_succ, i64_w, i32_w]
             rfl
            refine pure_ (i := 18) (N := some 63) (v := ?_) (a' := ?_) #[false, true, true, true, false, true, true, true, true, true, true, false, false, true, true, true, true, true, true, false, false, false, false] rfl rfl (any_of HT_.out (by kernel_rfl)) (fun _ _ _ h => h) (Or.inl ⟨by rfl, ?_⟩) ?_ ?_
            rotate_left
            ·intro w'
             go_simp
             with_reducible rfl
            rotate_left
            ·simp only [Act.put, List.setIfInBounds_toArray, List.set_cons_zero, List.set_cons_succ, i64_w, i32_w]
             rfl
            refine take_ (i := 0) (N := some 45) (v := ?_) (a' := ?_) #[true, true, true, true, false, true, true, true, true, true, true, false, false, true, true, true, true, true, true, false, false, false, false] rfl rfl (take_ofW HT_.out HW_.out (by kernel_rfl)) (fun _ _ _ h => h) (Or.inl ⟨by rfl, ?_⟩) hHeld ?_ ?_
            rotate_left
            ·rintro w' ⟨s0, s1, s2, s3, s4, s5, s6, s7, s8, s9, s10, s11, s12, s13, s14, s15⟩
             go_simp
             with_reducible rfl
            rotate_left
            ·simp only [Act.put, List.setIfInBounds_toArray, List.set_cons_zero, List.set_cons_succ, i64_w, i32_w]
             rfl
            refine take_ (i := 4) (N := some 49) (v := ?_) (a' := ?_) #[true, true, true, true, true, true, true, true, true, true, true, false, false, true, true, true, true, true, true, false, false, false, false] rfl rfl (take_ofW HT_.out HW_.out (by kernel_rfl)) (fun _ _ _ h => h) (Or.inl ⟨by rfl, ?_⟩) hHeld ?_ ?_
            rotate_left
            ·rintro w' ⟨s0, s1, s2, s3, s4, s5, s6, s7, s8, s9, s10, s11, s12, s13, s14, s15⟩
             go_simp
             with_reducible rfl
            rotate_left
            ·simp only [Act.put, List.setIfInBounds_toArray, List.set_cons_zero, List.set_cons_succ, i64_w, i32_w]
             rfl
            refine take_ (i := 11) (N := some 56) (v := ?_) (a' := ?_) #[true, true, true, true, true, true, true, true, true, true, true, true, false, true, true, true, true, true, true, false, false, false, false] rfl rfl (take_ofW HT_.out HW_.out (by kernel_rfl)) (fun _ _ _ h => h) (Or.inl ⟨by rfl, ?_⟩) hHeld ?_ ?_
            rotate_left
            ·rintro w' ⟨s0, s1, s2, s3, s4, s5, s6, s7, s8, s9, s10, s11, s12, s13, s14, s15⟩
             go_simp
             with_reducible rfl
            rotate_left
            ·simp only [Act.put, List.setIfInBounds_toArray, List.set_cons_zero, List.set_cons_succ, i64_w, i32_w]
             rfl
            refine pure_ (i := 12) (N := some 57) (v := ?_) (a' := ?_) #[true, true, true, true, true, true, true, true, true, true, true, true, true, true, true, true, true, true, true, false, false, false, false] rfl rfl (any_of HT_.out (by kernel_rfl)) (fun _ _ _ h => h) (Or.inl ⟨by rfl, ?_⟩) ?_ ?_
            rotate_left
            ·intro w'
             go_simp
             with_reducible rfl
            rotate_left
            ·simp only [Act.put, List.setIfInBounds_toArray, List.set_cons_zero, List.set_cons_succ, i64_w, i32_w]
             rfl
            refine take_ (i := 19) (N := some 64) (v := ?_) (a' := ?_) #[true, true, true, true, true, true, true, true, true, true, true, true, true, true, true, true, true, true, true, true, false, false, false] rfl rfl (take_ofW HT_.out HW_.out (by kernel_rfl)) (fun _ _ _ h => h) (Or.inl ⟨by rfl, ?_⟩) hHeld ?_ ?_
            rotate_left
            ·rintro w' ⟨s0, s1, s2, s3, s4, s5, s6, s7, s8, s9, s10, s11, s12, s13, s14, s15⟩
             go_simp
             with_reducible rfl
            rotate_left
            ·simp only [Act.put, List.setIfInBounds_toArray, List.set_cons_zero, List.set_cons_succ, i64_w, i32_w]
             rfl
            refine pure_ (i := 20) (N := some 65) (v := ?_) (a' := ?_) #[true, true, true, true, true, true, true, true, true, true, true, true, true, true, true, true, true, true, true, true, true, false, false] rfl rfl (any_of HT_.out (by kernel_rfl)) (fun _ _ _ h => h) (Or.inl ⟨by rfl, ?_⟩) ?_ ?_
            rotate_left
            ·intro w'
             go_simp
             with_reducible rfl
            rotate_left
            ·simp only [Act.put, List.setIfInBounds_toArray, List.set_cons_zero, List.set_cons_succ, i64_w, i32_w]
             rfl
            refine one_ (i := 21) (N := some 66) #[true, true, true, true, true, true, true, true, true, true, true, true, true, true, true, true, true, true, true, true, true, true, false] rfl rfl (one_of HT_.out (by kernel_rfl)) (by decide) (fun K hK => ?_)
            refine goes_ Tryz.func69 (by kernel_rfl) rfl #[.agg #[.int .i64 x534000_2, .int .i64 x534001_2, .int .i64 x534002_2, .slice Ao30 x534003_2.length co30], .agg #[.int .i64 ((rd_T24 l0 x13_2).f0), .int .i64 ((rd_T24 l0 x13_2).f1), .int .i64 ((rd_T24 l0 x13_2).f2), .slice A541_3 ((rd_T24 l0 x13_2).f3).length c541_3], .int .i64 (wrap64 ((Int.tmod x13_2 a2) * ((rd_T24 l0 0).f0))), .int .i64 (wrap64 ((wrap64 (Int.tdiv x13_2 a2)) * ((rd_T24 l0 0).f1)))] (by rfl) rfl rfl (by (try simp only [List.map_toArray, List.map_cons, List.map_nil]); first | done | rfl | (simp only [List.length_drop, List.length_take]; rfl)) ?_
            with_reducible refine (r15_drawn.calls k2 x534000_2 x534001_2 x534002_2 _ _ x534003_2 ((rd_T24 l0 x13_2).f0) ((rd_T24 l0 x13_2).f1) ((rd_T24 l0 x13_2).f2) _ _ ((rd_T24 l0 x13_2).f3) (wrap64 ((Int.tmod x13_2 a2) * ((rd_T24 l0 0).f0))) (wrap64 ((wrap64 (Int.tdiv x13_2 a2)) * ((rd_T24 l0 0).f1))) t544 t545 t546 t547 _ ?side1 ?side2 ?side3 ?side4 A28.out).mono ?_
            (case side1 => repeat (first | exact (Kd.S_reads' HO_534003.out).2.2 | (with_reducible refine Kd.C_alloc ?_ _) | (with_reducible refine Kd.C_drewN ?_ _) | (with_reducible refine Kd.C_drew ?_)))
            (case side2 => exact (Kd.S_reads' HO_534003.out).2.1)
            (case side3 => repeat (first | exact (Kd.C_below HR541_3.out HB.out) | (with_reducible refine Kd.C_alloc ?_ _) | (with_reducible refine Kd.C_drewN ?_ _) | (with_reducible refine Kd.C_drew ?_)))
            (case side4 => exact HC541_3.out)
            rintro e w31 ⟨v548, rfl, ho0, hb⟩
            refine ⟨_, rfl, ?_⟩
            have n0_ := As0.mk (Kd.S_elder' (by (with_reducible repeat (first | apply Kd.S_alloc | apply Kd.S_drewN | apply Kd.S_drew)); exact HO_534003.out) (Kd.S_base ho0) hb)
            have n1_ := As0.mk (Kd.S_lower (Kd.S_new' ho0 (Kd.S_lt (by (with_reducible repeat (first | apply Kd.S_alloc | apply Kd.S_drewN | apply Kd.S_drew)); exact HO_534003.out))) (bwz (by repeat (first | (with_reducible first | exact HB.out | apply bwa | apply pwN | apply bwd | refine bws ?_ GE531.out | refine bws ?_ GE533.out) | exact HB.out))))
            have n2_ := As0.mk (bkb (g := gb531) (o := .cells #[.int .i64 0, .int .i64 0, .int .i64 0, .slice none 0 0] 24 (0, 0)) (by (with_reducible repeat (first | refine bkN ?_ _ | refine bkd ?_ | refine bka ?_ _)); exact BK531.out) hb)
            have n3_ := As0.mk (bkb (g := gb533) (o := .cells #[.int .i64 x534000_2, .int .i64 x534001_2, .int .i64 x534002_2, .slice Ao30 x534003_2.length co30] 24 (0, 0)) (by (with_reducible repeat (first | refine bkN ?_ _ | refine bkd ?_ | refine bka ?_ _)); exact BK533.out) hb)
            have n4_ := As0.mk (bwp (by repeat (first | (with_reducible first | exact HB.out | apply bwa | apply pwN | apply bwd | refine bws ?_ GE531.out | refine bws ?_ GE533.out) | exact HB.out)) hb)
            clear HO_534003
            clear BK531
            clear BK533
            clear HB
            have HO_534003 := n0_
            have HO549 := n1_
            have BK531 := n2_
            have BK533 := n3_
            have HB := n4_
            clear n0_ n1_ n2_ n3_ n4_
            (try clear hb)
            (try clear hb2)
            (try clear hk)
            (try clear hi)
            (try clear ho0)
            obtain ⟨Ao35, co35, eo35⟩ := Kd.S_slice HO549.out
            (first | subst eo35 | (injection eo35 with f1_ f2_ f3_; have f4_ := f1_.symm; have f5_ := f3_.symm; clear f1_ f2_ f3_; subst f4_; subst f5_))
            refine hK.out _ _ ⟨(bkc BK533.out 0).trans rfl, (bkc BK533.out 1).trans rfl, (bkc BK533.out 2).trans rfl, (bkc BK533.out 3).trans rfl, ((HB.out.cell (World.block_lt_of_cell? w _ hw541_0)).trans hw541_0), ((HB.out.cell (World.block_lt_of_cell? w _ hw541_1)).trans hw541_1), ((HB.out.cell (World.block_lt_of_cell? w _ hw541_2)).trans hw541_2), ((HB.out.cell (World.block_lt_of_cell? w _ hw541_3)).trans hw541_3), ((HB.out.cell (World.block_lt_of_cell? w _ hw542_0)).trans hw542_0), ((HB.out.cell (World.block_lt_of_cell? w _ hw542_1)).trans hw542_1), ((HB.out.cell (World.block_lt_of_cell? w _ hw542_2)).trans hw542_2), ((HB.out.cell (World.block_lt_of_cell? w _ hw542_3)).trans hw542_3), ((HB.out.cell (World.block_lt_of_cell? w _ hw543_0)).trans hw543_0), ((HB.out.cell (World.block_lt_of_cell? w _ hw543_1)).trans hw543_1), ((HB.out.cell (World.block_lt_of_cell? w _ hw543_2)).trans hw543_2), ((HB.out.cell (World.block_lt_of_cell? w _ hw543_3)).trans hw543_3)⟩ (fun hHeld => ?_)
            clear hK K
            refine norm_ (a' := ?_) ?_ ?_
            rotate_left
            ·show Act.put _ (some 66) _ = _
             simp only [Act.put, List.setIfInBounds_toArray, List.set_cons_zero, List.set_cons_succ, i64_w, i32_w]
             rfl
            refine last_ (i := 22) (N := none) #[true, true, true, true, true, true, true, true, true, true, true, true, true, true, true, true, true, true, true, true, true, true, true] rfl rfl (one_of HT_.out (by kernel_rfl)) (by decide) (fun K hK => ?_)
            have hs32 : w31.cell? ⟨gb533, 0, none⟩ = some (.int .i64 x534000_2) := (bkc BK533.out 0).trans rfl
            have hfs32 := bkz BK533.out 0
            have hns32_0 := NB531_533.out
            have hms32_0 := NB533_531.out
            have hs33 : w31.cell? ⟨gb533, 1, none⟩ = some (.int .i64 x534001_2) := (bkc BK533.out 1).trans rfl
            have hfs33 := bkz BK533.out 1
            have hns33_0 := NB531_533.out
            have hms33_0 := NB533_531.out
            have hs34 : w31.cell? ⟨gb533, 2, none⟩ = some (.int .i64 x534002_2) := (bkc BK533.out 2).trans rfl
            have hfs34 := bkz BK533.out 2
            have hns34_0 := NB531_533.out
            have hms34_0 := NB533_531.out
            have hs36 : w31.cell? ⟨gb533, 3, none⟩ = some (.slice Ao30 x534003_2.length co30) := (bkc BK533.out 3).trans rfl
            have hfs36 := bkz BK533.out 3
            have hns36_0 := NB531_533.out
            have hms36_0 := NB533_531.out
            refine skip_ (w1 := ?_) (by rfl) rfl ?_ ?_
            rotate_left
            ·go_simp
             rfl
            refine hK.out _ _ ?_
            clear hK K
            refine done_ (done_of HT_.out (by kernel_rfl)) ?_
            try go_wp2
            go_roundg k2
            case measure => have := HK1.out; have := HK2.out; omega
            case rel => exact ⟨(wrap64 (x13_2 + 1)), (t544), (t545), (t546), (t547), (.slice Ao35 t547.length co35), (by first | rfl | (simp; done) | (simp [*]; done)), H', ⟨by have := HK1.out; have := HK2.out; omega⟩, ⟨by (with_reducible repeat (first | apply Kd.S_alloc | apply Kd.S_drewN | apply Kd.S_drew)); exact Kd.S_mono (Kd.S_far (p := ⟨gb533, 3, none⟩) (Kd.S_far (p := ⟨gb533, 2, none⟩) (Kd.S_far (p := ⟨gb533, 1, none⟩) (Kd.S_far (p := ⟨gb533, 0, none⟩) (Kd.S_types HO549.out BK533.out (by decide)) (fun _ hk => hk.2) (.int .i64 t544)) (fun _ hk => hk.2) (.int .i64 t545)) (fun _ hk => hk.2) (.int .i64 t546)) (fun _ hk => hk.2) (.slice Ao35 t547.length co35)) (fun _ hk => trivial)⟩, ⟨by (with_reducible repeat (first | refine bkN ?_ _ | refine bkd ?_ | refine bka ?_ _)); refine bkf ?_ NB531_533.out _; (with_reducible repeat (first | refine bkN ?_ _ | refine bkd ?_ | refine bka ?_ _)); refine bkf ?_ NB531_533.out _; (with_reducible repeat (first | refine bkN ?_ _ | refine bkd ?_ | refine bka ?_ _)); refine bkf ?_ NB531_533.out _; (with_reducible repeat (first | refine bkN ?_ _ | refine bkd ?_ | refine bka ?_ _)); refine bkf ?_ NB531_533.out _; (with_reducible repeat (first | refine bkN ?_ _ | refine bkd ?_ | refine bka ?_ _)); exact BK531.out⟩, ⟨by (with_reducible repeat (first | refine bkN ?_ _ | refine bkd ?_ | refine bka ?_ _)); refine blk_put (cs := #[.int .i64 t544, .int .i64 t545, .int .i64 t546, .slice Ao30 x534003_2.length co30]) ?_ 3 _ rfl; (with_reducible repeat (first | refine bkN ?_ _ | refine bkd ?_ | refine bka ?_ _)); refine blk_put (cs := #[.int .i64 t544, .int .i64 t545, .int .i64 x534002_2, .slice Ao30 x534003_2.length co30]) ?_ 2 _ rfl; (with_reducible repeat (first | refine bkN ?_ _ | refine bkd ?_ | refine bka ?_ _)); refine blk_put (cs := #[.int .i64 t544, .int .i64 x534001_2, .int .i64 x534002_2, .slice Ao30 x534003_2.length co30]) ?_ 1 _ rfl; (with_reducible repeat (first | refine bkN ?_ _ | refine bkd ?_ | refine bka ?_ _)); refine blk_put (cs := #[.int .i64 x534000_2, .int .i64 x534001_2, .int .i64 x534002_2, .slice Ao30 x534003_2.length co30]) ?_ 0 _ rfl; (with_reducible repeat (first | refine bkN ?_ _ | refine bkd ?_ | refine bka ?_ _)); exact BK533.out⟩, ⟨by repeat (first | (with_reducible first | exact HB.out | apply bwa | apply pwN | apply bwd | refine bws ?_ GE531.out | refine bws ?_ GE533.out) | exact HB.out)⟩⟩
           ·rw [if_neg c27] at H
            exact absurd H (by simp)
         ·rw [if_neg c25] at H
          exact absurd H (by simp)
        ·rw [if_neg c24] at H
         have c24b0 : decide (x13_2 < (l0.length : Int)) = false := decide_eq_false c24
         clear c24
         simp only [Option.some.injEq, Prod.mk.injEq] at H
         obtain ⟨rfl, rfl, rfl, rfl⟩ := H
         have hnb37 := NB533_531.out
         have hnc37 := NB531_533.out
         have hcz38_0 : wr.cell? ⟨gb533, 0, none⟩ = some (.int .i64 x534000_2) := (bkc BK533.out 0).trans rfl
         have hcz38_1 : wr.cell? ⟨gb533, 1, none⟩ = some (.int .i64 x534001_2) := (bkc BK533.out 1).trans rfl
         have hcz38_2 : wr.cell? ⟨gb533, 2, none⟩ = some (.int .i64 x534002_2) := (bkc BK533.out 2).trans rfl
         have hcz38_3 : wr.cell? ⟨gb533, 3, none⟩ = some (u534003) := (bkc BK533.out 3).trans rfl
         have hfz38_0 := bkz BK533.out 0
         have hfz38_1 := bkz BK533.out 1
         have hfz38_2 := bkz BK533.out 2
         have hfz38_3 := bkz BK533.out 3
         have hcz39_0 : wr.cell? ⟨gb531, 0, none⟩ = some (.int .i64 0) := (bkc BK531.out 0).trans rfl
         have hcz39_1 : wr.cell? ⟨gb531, 1, none⟩ = some (.int .i64 0) := (bkc BK531.out 1).trans rfl
         have hcz39_2 : wr.cell? ⟨gb531, 2, none⟩ = some (.int .i64 0) := (bkc BK531.out 2).trans rfl
         have hcz39_3 : wr.cell? ⟨gb531, 3, none⟩ = some (.slice none 0 0) := (bkc BK531.out 3).trans rfl
         have hfz39_0 := bkz BK531.out 0
         have hfz39_1 := bkz BK531.out 1
         have hfz39_2 := bkz BK531.out 2
         have hfz39_3 := bkz BK531.out 3
         obtain ⟨Ao40, co40, eo40⟩ := Kd.S_slice HO_534003.out
         subst eo40
         go_wp2
         refine bodyPost_ret (results_cell_row rfl _ _ gb531 24 #[.int .i64 x534000_2, .int .i64 x534001_2, .int .i64 x534002_2, .slice Ao40 x534003_2.length co40] (0, 0) _ rfl (by (with_reducible repeat (first | refine bkN ?_ _ | refine bkd ?_ | refine bka ?_ _)); refine blk_put (cs := #[.int .i64 x534000_2, .int .i64 x534001_2, .int .i64 x534002_2, .slice none 0 0]) ?_ 3 _ rfl; (with_reducible repeat (first | refine bkN ?_ _ | refine bkd ?_ | refine bka ?_ _)); refine blk_put (cs := #[.int .i64 x534000_2, .int .i64 x534001_2, .int .i64 0, .slice none 0 0]) ?_ 2 _ rfl; (with_reducible repeat (first | refine bkN ?_ _ | refine bkd ?_ | refine bka ?_ _)); refine blk_put (cs := #[.int .i64 x534000_2, .int .i64 0, .int .i64 0, .slice none 0 0]) ?_ 1 _ rfl; (with_reducible repeat (first | refine bkN ?_ _ | refine bkd ?_ | refine bka ?_ _)); refine blk_put (cs := #[.int .i64 0, .int .i64 0, .int .i64 0, .slice none 0 0]) ?_ 0 _ rfl; (with_reducible repeat (first | refine bkN ?_ _ | refine bkd ?_ | refine bka ?_ _)); exact BK531.out) Tryz.underlying24 rfl (by kernel_rfl)) rfl ?_
         exact ⟨_, by first | rfl | (simp [errW_none, errW_some] <;> rfl) | (simp [*, errW_none, errW_some] <;> rfl), by (with_reducible repeat (first | apply Kd.S_alloc | apply Kd.S_drewN | apply Kd.S_drew)); exact Kd.S_mono (Kd.S_far (p := ⟨gb531, 3, none⟩) (Kd.S_far (p := ⟨gb531, 2, none⟩) (Kd.S_far (p := ⟨gb531, 1, none⟩) (Kd.S_far (p := ⟨gb531, 0, none⟩) (Kd.S_types HO_534003.out BK531.out (by decide)) (fun _ hk => hk.2) (.int .i64 x534000_2)) (fun _ hk => hk.2) (.int .i64 x534001_2)) (fun _ hk => hk.2) (.int .i64 x534002_2)) (fun _ hk => hk.2) (.slice Ao40 x534003_2.length co40)) (fun _ hk => trivial), by repeat (first | (with_reducible first | exact HB.out | apply bwa | apply pwN | apply bwd | refine bws ?_ GE531.out | refine bws ?_ GE533.out) | exact HB.out)⟩
    ·rw [if_neg c11] at H
     exact absurd H (by simp)
 ·rw [if_neg c6] at H
  exact absurd H (by simp)
mutual
def r15_Grid.j0 : Nat → List (S24) → Int → Int → Int → Int → Bool → Option (Int × Int × Int × (List (List Int)) × Int)
 | 0, _, _, _, _, _, _ => none
 | k + 1, x0, x1, x2, x3, x4, x40 => if x40 = true then (some (0, 0, 0, ([] : List (List Int)), 1)) else (r15_Grid.l0 k x0 x1 x2 x3 x4 ([] : List (S111)) 0)
def r15_Grid.l0 : Nat → List (S24) → Int → Int → Int → Int → List (S111) → Int → Option (Int × Int × Int × (List (List Int)) × Int)
 | 0, _, _, _, _, _, _, _ => none
 | k + 1, x0, x1, x2, x3, x4, x12, x13 => if x13 < (x0.length : Int) then (if 0 ≤ x13 then ((r14_Check.f k ((rd_T24 x0 x13).f0) ((rd_T24 x0 x13).f1) ((rd_T24 x0 x13).f2) ((rd_T24 x0 x13).f3)).bind fun t556 => (if t556 = 0 then ((r15_of.f ((rd_T24 x0 x13).f0) ((rd_T24 x0 x13).f1) ((rd_T24 x0 x13).f2) ((rd_T24 x0 x13).f3)).bind fun bt558 => (if x12.length < 4398046511104 then (r15_Grid.l0 k x0 x1 x2 x3 x4 (x12 ++ [(⟨bt558.1, bt558.2.1, bt558.2.2.1, bt558.2.2.2⟩ : S111)]) (wrap64 (x13 + 1))) else (none))) else (some (0, 0, 0, ([] : List (List Int)), t556)))) else (none)) else ((r15_gridFits.f k x12 x1 x2 x3 x4).bind fun t565 => (if t565 = true then ((r15_laid.f k x0 x1 x2 x3 x4).bind fun bt566 => (some (bt566.1, bt566.2.1, bt566.2.2.1, bt566.2.2.2, 0))) else (some (0, 0, 0, ([] : List (List Int)), 151))))
end
def r15_Grid.f (k : Nat) (l0 : List (S24)) (a1 : Int) (a2 : Int) (a3 : Int) (a4 : Int) : Option (Int × Int × Int × (List (List Int)) × Int) := (r15_in.f a1 1 8).bind fun t551 => (if t551 = true then ((r15_in.f a2 1 8).bind fun t552 => (if t552 = true then ((r15_in.f a3 1 64).bind fun t553 => (if t553 = true then ((r15_in.f a4 1 64).bind fun t554 => (if t554 = true then (r15_Grid.j0 k l0 a1 a2 a3 a4 ((l0.length : Int) != (wrap64 (a1 * a2)))) else (r15_Grid.j0 k l0 a1 a2 a3 a4 true))) else (r15_Grid.j0 k l0 a1 a2 a3 a4 true))) else (r15_Grid.j0 k l0 a1 a2 a3 a4 true))) else (r15_Grid.j0 k l0 a1 a2 a3 a4 true))
set_option maxHeartbeats 8000000 in
set_option maxRecDepth 100000 in
theorem r15_Grid.calls (k : Nat) (A0 : Option Addr) (c0 : Nat) (l0 : List (S24)) (a1 : Int) (a2 : Int) (a3 : Int) (a4 : Int) (r1 : Int) (r2 : Int) (r3 : Int) (r4 : List (List Int)) (r5 : Int) (w : World) (hr0 : Kd.C k24 w A0 l0.length l0) (hc0 : l0.length ≤ c0) (h : r15_Grid.f k l0 a1 a2 a3 a4 = some (r1, r2, r3, r4, r5)) :
  Calls Tryz.prog 29 #[.slice A0 l0.length c0, .int .i64 a1, .int .i64 a2, .int .i64 a3, .int .i64 a4] w fun e w' => ∃ v3_ : Value, e = .returned (.tuple #[.agg #[.int .i64 r1, .int .i64 r2, .int .i64 r3, v3_], .int .i64 r5]) ∧ Kd.S (Kd.slice 3 (Kd.int .i64)) 39 w' w.heap.size (fun _ => True) v3_ r4 ∧ Below w.heap.size w w' := by
 have hu24 := Tryz.underlying24
 have HR0 := As0.mk hr0
 have HC0 := As0.mk hc0
 clear hr0 hc0
 have HB := As0.mk (Below.refl w.heap.size w)
 have H : ((r15_in.f a1 1 8).bind fun t551 => (if t551 = true then ((r15_in.f a2 1 8).bind fun t552 => (if t552 = true then ((r15_in.f a3 1 64).bind fun t553 => (if t553 = true then ((r15_in.f a4 1 64).bind fun t554 => (if t554 = true then (r15_Grid.j0 k l0 a1 a2 a3 a4 ((l0.length : Int) != (wrap64 (a1 * a2)))) else (r15_Grid.j0 k l0 a1 a2 a3 a4 true))) else (r15_Grid.j0 k l0 a1 a2 a3 a4 true))) else (r15_Grid.j0 k l0 a1 a2 a3 a4 true))) else (r15_Grid.j0 k l0 a1 a2 a3 a4 true))) = some (r1, r2, r3, r4, r5) := h
 clear h
 have HC6 := As0.mk H
 clear H
 go_enter Tryz.func29, Tryz.ntmps29
 go_upto_region 1 with (first | ((with_reducible refine gdt (N := 10) rfl ?_); (try (refine gate_guard (by rfl) ?_; dsimp only)); refine bxe ?hg (N := 10) ?hd (cs := #[.int .i64 0, .int .i64 0, .int .i64 0, .slice none 0 0]) (t := 24) ?hr ?_; (case hd => rfl); (case hg => rfl); (case hr => first | (go_simp; done) | (go_simp; rfl)); intro gb550 hg w7 hbox hb; have n0_ := As0.mk (bwp (by repeat (first | (with_reducible first | exact HB.out | apply bwa | apply pwN | apply bwd) | exact HB.out)) hb); have n1_ := As0.mk (hbox); have n2_ := As0.mk ((by rw [hg]; exact (bwz (by repeat (first | (with_reducible first | exact HB.out | apply bwa | apply pwN | apply bwd) | exact HB.out))) : w.heap.size ≤ gb550)); have n3_ := As0.mk ((by rw [hg]; exact (bwz (by repeat (first | (with_reducible first | exact HB.out | apply bwa | apply pwN | apply bwd) | exact HB.out))) : w.heap.size ≤ gb550)); clear HB; have HB := n0_; have BK550 := n1_; have GW550 := n2_; have GE550 := n3_; clear n0_ n1_ n2_ n3_; clear hb hbox hg))
 (try simp only [Act.put, List.setIfInBounds_toArray, List.set_cons_zero, List.set_cons_succ])
 go_cut [40] (fun v40 wc => ∃ (kq : Nat) (x40_5 : Bool), v40 = .bool x40_5 ∧ As0 (r15_Grid.j0 kq l0 a1 a2 a3 a4 x40_5 = some (r1, r2, r3, r4, r5)) ∧ As0 (kq ≤ k) ∧ As0 (wc.heap[gb550]? = some (.cells #[.int .i64 0, .int .i64 0, .int .i64 0, (.slice none 0 0)] 24 (0, 0))) ∧ As0 (Below w.heap.size w wc))
 case first =>
  have H := HC6.out
  clear HC6
  replace H := Option.bind_eq_some_iff.mp H
  obtain ⟨t551, A80, H⟩ := H
  replace H : (if t551 = true then ((r15_in.f a2 1 8).bind fun t552 => (if t552 = true then ((r15_in.f a3 1 64).bind fun t553 => (if t553 = true then ((r15_in.f a4 1 64).bind fun t554 => (if t554 = true then (r15_Grid.j0 k l0 a1 a2 a3 a4 ((l0.length : Int) != (wrap64 (a1 * a2)))) else (r15_Grid.j0 k l0 a1 a2 a3 a4 true))) else (r15_Grid.j0 k l0 a1 a2 a3 a4 true))) else (r15_Grid.j0 k l0 a1 a2 a3 a4 true))) else (r15_Grid.j0 k l0 a1 a2 a3 a4 true)) = some (r1, r2, r3, r4, r5) := H
  have A8 := As0.mk A80
  clear A80
  by_cases c9 : t551 = true
  ·subst c9
   have H1 : ((r15_in.f a2 1 8).bind fun t552 => (if t552 = true then ((r15_in.f a3 1 64).bind fun t553 => (if t553 = true then ((r15_in.f a4 1 64).bind fun t554 => (if t554 = true then (r15_Grid.j0 k l0 a1 a2 a3 a4 ((l0.length : Int) != (wrap64 (a1 * a2)))) else (r15_Grid.j0 k l0 a1 a2 a3 a4 true))) else (r15_Grid.j0 k l0 a1 a2 a3 a4 true))) else (r15_Grid.j0 k l0 a1 a2 a3 a4 true))) = some (r1, r2, r3, r4, r5) := by rw [if_pos rfl] at H; exact H
   clear H
   have H := H1
   clear H1
   replace H := Option.bind_eq_some_iff.mp H
   obtain ⟨t552, A100, H⟩ := H
   replace H : (if t552 = true then ((r15_in.f a3 1 64).bind fun t553 => (if t553 = true then ((r15_in.f a4 1 64).bind fun t554 => (if t554 = true then (r15_Grid.j0 k l0 a1 a2 a3 a4 ((l0.length : Int) != (wrap64 (a1 * a2)))) else (r15_Grid.j0 k l0 a1 a2 a3 a4 true))) else (r15_Grid.j0 k l0 a1 a2 a3 a4 true))) else (r15_Grid.j0 k l0 a1 a2 a3 a4 true)) = some (r1, r2, r3, r4, r5) := H
   have A10 := As0.mk A100
   clear A100
   by_cases c11 : t552 = true
   ·subst c11
    have H1 : ((r15_in.f a3 1 64).bind fun t553 => (if t553 = true then ((r15_in.f a4 1 64).bind fun t554 => (if t554 = true then (r15_Grid.j0 k l0 a1 a2 a3 a4 ((l0.length : Int) != (wrap64 (a1 * a2)))) else (r15_Grid.j0 k l0 a1 a2 a3 a4 true))) else (r15_Grid.j0 k l0 a1 a2 a3 a4 true))) = some (r1, r2, r3, r4, r5) := by rw [if_pos rfl] at H; exact H
    clear H
    have H := H1
    clear H1
    replace H := Option.bind_eq_some_iff.mp H
    obtain ⟨t553, A120, H⟩ := H
    replace H : (if t553 = true then ((r15_in.f a4 1 64).bind fun t554 => (if t554 = true then (r15_Grid.j0 k l0 a1 a2 a3 a4 ((l0.length : Int) != (wrap64 (a1 * a2)))) else (r15_Grid.j0 k l0 a1 a2 a3 a4 true))) else (r15_Grid.j0 k l0 a1 a2 a3 a4 true)) = some (r1, r2, r3, r4, r5) := H
    have A12 := As0.mk A120
    clear A120
    by_cases c13 : t553 = true
    ·subst c13
     have H1 : ((r15_in.f a4 1 64).bind fun t554 => (if t554 = true then (r15_Grid.j0 k l0 a1 a2 a3 a4 ((l0.length : Int) != (wrap64 (a1 * a2)))) else (r15_Grid.j0 k l0 a1 a2 a3 a4 true))) = some (r1, r2, r3, r4, r5) := by rw [if_pos rfl] at H; exact H
     clear H
     have H := H1
     clear H1
     replace H := Option.bind_eq_some_iff.mp H
     obtain ⟨t554, A140, H⟩ := H
     replace H : (if t554 = true then (r15_Grid.j0 k l0 a1 a2 a3 a4 ((l0.length : Int) != (wrap64 (a1 * a2)))) else (r15_Grid.j0 k l0 a1 a2 a3 a4 true)) = some (r1, r2, r3, r4, r5) := H
     have A14 := As0.mk A140
     clear A140
     by_cases c15 : t554 = true
     ·subst c15
      have H1 : (r15_Grid.j0 k l0 a1 a2 a3 a4 ((l0.length : Int) != (wrap64 (a1 * a2)))) = some (r1, r2, r3, r4, r5) := by rw [if_pos rfl] at H; exact H
      clear H
      have H := H1
      clear H1
      have H' := As0.mk H
      clear H
      go_wp2_with (first | ((with_reducible refine gate_callee (f := 50) rfl ?_); refine goesL_ (some 16) rfl rfl Tryz.func50 (by kernel_rfl) rfl #[.int .i64 a1, .int .i64 1, .int .i64 8] rfl (by (try simp only [List.map_toArray, List.map_cons, List.map_nil]); first | done | rfl | (simp only [List.length_drop, List.length_take]; rfl)) ?_; (with_reducible refine (r15_in.calls a1 1 8 true _ A8.out).mono ?_); rintro e w' ⟨rfl, ⟨nd, rfl⟩⟩; refine ⟨_, rfl, ?_⟩) | (go_at_call 50; (with_reducible refine (r15_in.calls a2 1 8 true _ A10.out).mono ?_); rintro e w' ⟨rfl, ⟨nd, rfl⟩⟩) | (go_at_call 50; (with_reducible refine (r15_in.calls a3 1 64 true _ A12.out).mono ?_); rintro e w' ⟨rfl, ⟨nd, rfl⟩⟩) | (go_at_call 50; (with_reducible refine (r15_in.calls a4 1 64 true _ A14.out).mono ?_); rintro e w' ⟨rfl, ⟨nd, rfl⟩⟩))
      go_meet
      case rel => exact ⟨_, (((l0.length : Int) != (wrap64 (a1 * a2)))), (by first | rfl | (simp; done) | (simp [*]; done)), H', ⟨by first | omega | exact Nat.le_refl _⟩, ⟨by (with_reducible repeat (first | refine bkN ?_ _ | refine bkd ?_ | refine bka ?_ _)); exact BK550.out⟩, ⟨by repeat (first | (with_reducible first | exact HB.out | apply bwa | apply pwN | apply bwd | refine bws ?_ GE550.out) | exact HB.out)⟩⟩
     ·replace c15 := Bool.eq_false_iff.mpr c15
      subst c15
      have H1 : (r15_Grid.j0 k l0 a1 a2 a3 a4 true) = some (r1, r2, r3, r4, r5) := by rw [if_neg (show ¬ (false = true) by decide)] at H; exact H
      clear H
      have H := H1
      clear H1
      have H' := As0.mk H
      clear H
      go_wp2_with (first | ((with_reducible refine gate_callee (f := 50) rfl ?_); refine goesL_ (some 16) rfl rfl Tryz.func50 (by kernel_rfl) rfl #[.int .i64 a1, .int .i64 1, .int .i64 8] rfl (by (try simp only [List.map_toArray, List.map_cons, List.map_nil]); first | done | rfl | (simp only [List.length_drop, List.length_take]; rfl)) ?_; (with_reducible refine (r15_in.calls a1 1 8 true _ A8.out).mono ?_); rintro e w' ⟨rfl, ⟨nd, rfl⟩⟩; refine ⟨_, rfl, ?_⟩) | (go_at_call 50; (with_reducible refine (r15_in.calls a2 1 8 true _ A10.out).mono ?_); rintro e w' ⟨rfl, ⟨nd, rfl⟩⟩) | (go_at_call 50; (with_reducible refine (r15_in.calls a3 1 64 true _ A12.out).mono ?_); rintro e w' ⟨rfl, ⟨nd, rfl⟩⟩) | (go_at_call 50; (with_reducible refine (r15_in.calls a4 1 64 false _ A14.out).mono ?_); rintro e w' ⟨rfl, ⟨nd, rfl⟩⟩))
      go_meet
      case rel => exact ⟨_, (true), (by first | rfl | (simp; done) | (simp [*]; done)), H', ⟨by first | omega | exact Nat.le_refl _⟩, ⟨by (with_reducible repeat (first | refine bkN ?_ _ | refine bkd ?_ | refine bka ?_ _)); exact BK550.out⟩, ⟨by repeat (first | (with_reducible first | exact HB.out | apply bwa | apply pwN | apply bwd | refine bws ?_ GE550.out) | exact HB.out)⟩⟩
    ·replace c13 := Bool.eq_false_iff.mpr c13
     subst c13
     have H1 : (r15_Grid.j0 k l0 a1 a2 a3 a4 true) = some (r1, r2, r3, r4, r5) := by rw [if_neg (show ¬ (false = true) by decide)] at H; exact H
     clear H
     have H := H1
     clear H1
     have H' := As0.mk H
     clear H
     go_wp2_with (first | ((with_reducible refine gate_callee (f := 50) rfl ?_); refine goesL_ (some 16) rfl rfl Tryz.func50 (by kernel_rfl) rfl #[.int .i64 a1, .int .i64 1, .int .i64 8] rfl (by (try simp only [List.map_toArray, List.map_cons, List.map_nil]); first | done | rfl | (simp only [List.length_drop, List.length_take]; rfl)) ?_; (with_reducible refine (r15_in.calls a1 1 8 true _ A8.out).mono ?_); rintro e w' ⟨rfl, ⟨nd, rfl⟩⟩; refine ⟨_, rfl, ?_⟩) | (go_at_call 50; (with_reducible refine (r15_in.calls a2 1 8 true _ A10.out).mono ?_); rintro e w' ⟨rfl, ⟨nd, rfl⟩⟩) | (go_at_call 50; (with_reducible refine (r15_in.calls a3 1 64 false _ A12.out).mono ?_); rintro e w' ⟨rfl, ⟨nd, rfl⟩⟩))
     go_meet
     case rel => exact ⟨_, (true), (by first | rfl | (simp; done) | (simp [*]; done)), H', ⟨by first | omega | exact Nat.le_refl _⟩, ⟨by (with_reducible repeat (first | refine bkN ?_ _ | refine bkd ?_ | refine bka ?_ _)); exact BK550.out⟩, ⟨by repeat (first | (with_reducible first | exact HB.out | apply bwa | apply pwN | apply bwd | refine bws ?_ GE550.out) | exact HB.out)⟩⟩
   ·replace c11 := Bool.eq_false_iff.mpr c11
    subst c11
    have H1 : (r15_Grid.j0 k l0 a1 a2 a3 a4 true) = some (r1, r2, r3, r4, r5) := by rw [if_neg (show ¬ (false = true) by decide)] at H; exact H
    clear H
    have H := H1
    clear H1
    have H' := As0.mk H
    clear H
    go_wp2_with (first | ((with_reducible refine gate_callee (f := 50) rfl ?_); refine goesL_ (some 16) rfl rfl Tryz.func50 (by kernel_rfl) rfl #[.int .i64 a1, .int .i64 1, .int .i64 8] rfl (by (try simp only [List.map_toArray, List.map_cons, List.map_nil]); first | done | rfl | (simp only [List.length_drop, List.length_take]; rfl)) ?_; (with_reducible refine (r15_in.calls a1 1 8 true _ A8.out).mono ?_); rintro e w' ⟨rfl, ⟨nd, rfl⟩⟩; refine ⟨_, rfl, ?_⟩) | (go_at_call 50; (with_reducible refine (r15_in.calls a2 1 8 false _ A10.out).mono ?_); rintro e w' ⟨rfl, ⟨nd, rfl⟩⟩))
    go_meet
    case rel => exact ⟨_, (true), (by first | rfl | (simp; done) | (simp [*]; done)), H', ⟨by first | omega | exact Nat.le_refl _⟩, ⟨by (with_reducible repeat (first | refine bkN ?_ _ | refine bkd ?_ | refine bka ?_ _)); exact BK550.out⟩, ⟨by repeat (first | (with_reducible first | exact HB.out | apply bwa | apply pwN | apply bwd | refine bws ?_ GE550.out) | exact HB.out)⟩⟩
  ·replace c9 := Bool.eq_false_iff.mpr c9
   subst c9
   have H1 : (r15_Grid.j0 k l0 a1 a2 a3 a4 true) = some (r1, r2, r3, r4, r5) := by rw [if_neg (show ¬ (false = true) by decide)] at H; exact H
   clear H
   have H := H1
   clear H1
   have H' := As0.mk H
   clear H
   go_wp2_with (first | ((with_reducible refine gate_callee (f := 50) rfl ?_); refine goesL_ (some 16) rfl rfl Tryz.func50 (by kernel_rfl) rfl #[.int .i64 a1, .int .i64 1, .int .i64 8] rfl (by (try simp only [List.map_toArray, List.map_cons, List.map_nil]); first | done | rfl | (simp only [List.length_drop, List.length_take]; rfl)) ?_; (with_reducible refine (r15_in.calls a1 1 8 false _ A8.out).mono ?_); rintro e w' ⟨rfl, ⟨nd, rfl⟩⟩; refine ⟨_, rfl, ?_⟩))
   go_meet
   case rel => exact ⟨_, (true), (by first | rfl | (simp; done) | (simp [*]; done)), H', ⟨by first | omega | exact Nat.le_refl _⟩, ⟨by (with_reducible repeat (first | refine bkN ?_ _ | refine bkd ?_ | refine bka ?_ _)); exact BK550.out⟩, ⟨by repeat (first | (with_reducible first | exact HB.out | apply bwa | apply pwN | apply bwd | refine bws ?_ GE550.out) | exact HB.out)⟩⟩
 case rest =>
  clear HC6
  try clear c1
  try clear c2
  try clear p2
  try clear c5
  try clear p6
  try clear c9
  try clear c11
  try clear c13
  try clear c15
  obtain ⟨kq, x40_5, rfl, HA, HJ5, BK550, HB⟩ := hcut
  cases kq with
  | zero => exact absurd HA.out (by simp [r15_Grid.j0])
  | succ kj5 =>
   have H := HA.out
   clear HA
   simp only [r15_Grid.j0] at H
   by_cases c16 : x40_5 = true
   ·subst c16
    have H1 : (some (0, 0, 0, ([] : List (List Int)), 1)) = some (r1, r2, r3, r4, r5) := by rw [if_pos rfl] at H; exact H
    clear H
    have H := H1
    clear H1
    simp only [Option.some.injEq, Prod.mk.injEq] at H
    obtain ⟨rfl, rfl, rfl, rfl, rfl⟩ := H
    have hcz17_0 : wc.cell? ⟨gb550, 0, none⟩ = some (.int .i64 0) := (bkc BK550.out 0).trans rfl
    have hcz17_1 : wc.cell? ⟨gb550, 1, none⟩ = some (.int .i64 0) := (bkc BK550.out 1).trans rfl
    have hcz17_2 : wc.cell? ⟨gb550, 2, none⟩ = some (.int .i64 0) := (bkc BK550.out 2).trans rfl
    have hcz17_3 : wc.cell? ⟨gb550, 3, none⟩ = some (.slice none 0 0) := (bkc BK550.out 3).trans rfl
    have hfz17_0 := bkz BK550.out 0
    have hfz17_1 := bkz BK550.out 1
    have hfz17_2 := bkz BK550.out 2
    have hfz17_3 := bkz BK550.out 3
    go_wp2
    refine bodyPost_ret (results_ct rfl _ _ gb550 24 #[.int .i64 0, .int .i64 0, .int .i64 0, .slice none 0 0] (0, 0) _ rfl (by (with_reducible repeat (first | refine bkN ?_ _ | refine bkd ?_ | refine bka ?_ _)); refine blk_put (cs := #[.int .i64 0, .int .i64 0, .int .i64 0, .slice none 0 0]) ?_ 3 _ rfl; (with_reducible repeat (first | refine bkN ?_ _ | refine bkd ?_ | refine bka ?_ _)); refine blk_put (cs := #[.int .i64 0, .int .i64 0, .int .i64 0, .slice none 0 0]) ?_ 2 _ rfl; (with_reducible repeat (first | refine bkN ?_ _ | refine bkd ?_ | refine bka ?_ _)); refine blk_put (cs := #[.int .i64 0, .int .i64 0, .int .i64 0, .slice none 0 0]) ?_ 1 _ rfl; (with_reducible repeat (first | refine bkN ?_ _ | refine bkd ?_ | refine bka ?_ _)); refine blk_put (cs := #[.int .i64 0, .int .i64 0, .int .i64 0, .slice none 0 0]) ?_ 0 _ rfl; (with_reducible repeat (first | refine bkN ?_ _ | refine bkd ?_ | refine bka ?_ _)); exact BK550.out) Tryz.underlying24 rfl (by kernel_rfl)) rfl ?_
    exact ⟨_, by first | rfl | (simp [errW_none, errW_some] <;> rfl) | (simp [*, errW_none, errW_some] <;> rfl), by first | exact Kd.S_nil _ _ _ _ _ | exact Kd.N_nil _ _ _ _ _ | exact Kd.V_nil _ _ _ _ _ | exact Kd.Q_nil _ _ _ _ _ | exact Kd.R_nil _ _ _ _ _, by repeat (first | (with_reducible first | exact HB.out | apply bwa | apply pwN | apply bwd | refine bws ?_ GE550.out) | exact HB.out)⟩
   ·replace c16 := Bool.eq_false_iff.mpr c16
    subst c16
    have H1 : (r15_Grid.l0 kj5 l0 a1 a2 a3 a4 ([] : List (S111)) 0) = some (r1, r2, r3, r4, r5) := by rw [if_neg (show ¬ (false = true) by decide)] at H; exact H
    clear H
    have H := H1
    clear H1
    have H' := As0.mk H
    clear H
    go_wp2
    go_loopg [12, 13] kj5 (fun kq v12 v13 w' => ∃ (x12_2 : List (S111)) (x13_2 : Int) (x551000_2 : Int) (x551001_2 : Int) (x551002_2 : Int), v13 = .int .i64 x13_2 ∧ As0 (r15_Grid.l0 kq l0 a1 a2 a3 a4 x12_2 x13_2 = some (r1, r2, r3, r4, r5)) ∧ As0 (kq ≤ kj5) ∧ As0 (Kd.R k111 111 w' w.heap.size (fun _ => True) v12 x12_2) ∧ As0 (w'.heap[gb550]? = some (.cells #[.int .i64 x551000_2, .int .i64 x551001_2, .int .i64 x551002_2, (.slice none 0 0)] 24 (0, 0))) ∧ As0 (Below w.heap.size w w'))
    case atStart => exact ⟨(([] : List (S111))), (0), (0), (0), (0), (by first | rfl | (simp; done) | (simp [*]; done)), H', ⟨Nat.le_refl _⟩, ⟨by first | exact Kd.R_nil _ _ _ _ _ | exact Kd.N_nil _ _ _ _ _ | exact Kd.V_nil _ _ _ _ _ | exact Kd.Q_nil _ _ _ _ _ | exact Kd.S_nil _ _ _ _ _⟩, ⟨by (with_reducible repeat (first | refine bkN ?_ _ | refine bkd ?_ | refine bka ?_ _)); exact BK550.out⟩, ⟨by repeat (first | (with_reducible first | exact HB.out | apply bwa | apply pwN | apply bwd | refine bws ?_ GE550.out) | exact HB.out)⟩⟩
    case round =>
     clear H'
     try clear c1
     try clear c2
     try clear p2
     try clear c5
     try clear p6
     try clear c9
     try clear c11
     try clear c13
     try clear c15
     try clear c16
     try clear hcz17_0
     try clear hcz17_1
     try clear hcz17_2
     try clear hcz17_3
     try clear hfz17_0
     try clear hfz17_1
     try clear hfz17_2
     try clear hfz17_3
     try clear p2
     try clear p6
     obtain ⟨x12_2, x13_2, x551000_2, x551001_2, x551002_2, rfl, HA, HK2, HO_12, BK550, HB⟩ := hrel
     cases gk with
     | zero => exact absurd HA.out (by simp [r15_Grid.l0])
     | succ k2 =>
      have H := HA.out
      clear HA
      simp only [r15_Grid.l0] at H
      by_cases c18 : x13_2 < (l0.length : Int)
      ·rw [if_pos c18] at H
       have c18b0 : decide (x13_2 < (l0.length : Int)) = true := decide_eq_true c18
       clear c18
       by_cases c19 : 0 ≤ x13_2
       ·rw [if_pos c19] at H
        have c19b0 : decide (0 ≤ x13_2) = true := decide_eq_true c19
        clear c19
        replace H := Option.bind_eq_some_iff.mp H
        obtain ⟨t556, A200, H⟩ := H
        replace H : (if t556 = 0 then ((r15_of.f ((rd_T24 l0 x13_2).f0) ((rd_T24 l0 x13_2).f1) ((rd_T24 l0 x13_2).f2) ((rd_T24 l0 x13_2).f3)).bind fun bt558 => (if x12_2.length < 4398046511104 then (r15_Grid.l0 k2 l0 a1 a2 a3 a4 (x12_2 ++ [(⟨bt558.1, bt558.2.1, bt558.2.2.1, bt558.2.2.2⟩ : S111)]) (wrap64 (x13_2 + 1))) else (none))) else (some (0, 0, 0, ([] : List (List Int)), t556))) = some (r1, r2, r3, r4, r5) := H
        have A20 := As0.mk A200
        clear A200
        by_cases c21 : t556 = 0
        ·rw [if_pos c21] at H
         have c21b0 : (t556 == 0) = true := beq_iff_eq.mpr c21
         have c21b1 : (t556 != 0) = false := bne_eq_false_iff_eq.mpr c21
         clear c21
         replace H := Option.bind_eq_some_iff.mp H
         obtain ⟨⟨t558, t559, t560, t561⟩, A220, H⟩ := H
         replace H : (if x12_2.length < 4398046511104 then (r15_Grid.l0 k2 l0 a1 a2 a3 a4 (x12_2 ++ [(⟨t558, t559, t560, t561⟩ : S111)]) (wrap64 (x13_2 + 1))) else (none)) = some (r1, r2, r3, r4, r5) := H
         have A22 := As0.mk A220
         clear A220
         by_cases c23 : x12_2.length < 4398046511104
         ·rw [if_pos c23] at H
          have LMc23 := As0.mk c23
          clear c23
          obtain ⟨y562, hy562⟩ : ∃ y_ : List (S111), y_ = (x12_2 ++ [(⟨t558, t559, t560, t561⟩ : S111)]) := ⟨_, rfl⟩
          replace H : (r15_Grid.l0 k2 l0 a1 a2 a3 a4 y562 (wrap64 (x13_2 + 1))) = some (r1, r2, r3, r4, r5) := by first | (rw [hy562]; with_reducible exact H) | (have H2_ := (Option.bind_some _ _).symm.trans H; rw [hy562]; with_reducible exact H2_) | (have H2_ := (Option.bind_some _ _).symm.trans H; with_reducible exact H2_) | with_reducible exact H | (rw [hy562]; exact H) | exact H
          have Ny562 := As0.mk hy562
          clear hy562
          have H' := As0.mk H
          clear H
          have p555 : 0 ≤ (x13_2 : Int) := of_decide_eq_true (by first | (with_reducible assumption) | assumption)
          have q555 : x13_2 < (l0.length : Int) := of_decide_eq_true (by first | (with_reducible assumption) | assumption)
          obtain ⟨ad555, A555_3, c555_3, e555, hx555_0, hx555_1, hx555_2, hx555_3, hl555_3, hi555_3⟩ := at_T24 HR0.out x13_2 p555 q555
          cases e555
          replace hx555_0 := (HB.out.cell (World.block_lt_of_cell? w _ hx555_0)).trans hx555_0
          replace hx555_1 := (HB.out.cell (World.block_lt_of_cell? w _ hx555_1)).trans hx555_1
          replace hx555_2 := (HB.out.cell (World.block_lt_of_cell? w _ hx555_2)).trans hx555_2
          replace hx555_3 := (HB.out.cell (World.block_lt_of_cell? w _ hx555_3)).trans hx555_3
          have HR555_3 := As0.mk hi555_3
          have HC555_3 := As0.mk hl555_3
          clear hi555_3 hl555_3
          replace p555 := eq_true p555
          replace q555 := eq_true q555
          go_wp2_with (first | ((with_reducible refine gate_callee (f := 30) rfl ?_); refine goesL_ (some 52) rfl rfl Tryz.func30 (by kernel_rfl) rfl #[.agg #[.int .i64 ((rd_T24 l0 x13_2).f0), .int .i64 ((rd_T24 l0 x13_2).f1), .int .i64 ((rd_T24 l0 x13_2).f2), .slice A555_3 ((rd_T24 l0 x13_2).f3).length c555_3]] rfl (by (try simp only [List.map_toArray, List.map_cons, List.map_nil]); first | done | rfl | (simp only [List.length_drop, List.length_take]; rfl)) ?_; (with_reducible refine (r14_Check.calls k2 ((rd_T24 l0 x13_2).f0) ((rd_T24 l0 x13_2).f1) ((rd_T24 l0 x13_2).f2) _ _ ((rd_T24 l0 x13_2).f3) t556 _ ?side1 ?side2 A20.out).mono ?_); (case side1 => repeat (first | exact (Kd.C_below HR555_3.out HB.out) | (with_reducible refine Kd.C_alloc ?_ _) | (with_reducible refine Kd.C_drewN ?_ _) | (with_reducible refine Kd.C_drew ?_))); (case side2 => exact HC555_3.out); rintro e w24 ⟨rfl, hb⟩; refine ⟨_, rfl, ?_⟩; have n0_ := As0.mk (Kd.R_below (by (with_reducible repeat (first | apply Kd.R_alloc | apply Kd.R_drewN | apply Kd.R_drew)); exact HO_12.out) hb); have n1_ := As0.mk (bkb (g := gb550) (o := .cells #[.int .i64 x551000_2, .int .i64 x551001_2, .int .i64 x551002_2, .slice none 0 0] 24 (0, 0)) (by (with_reducible repeat (first | refine bkN ?_ _ | refine bkd ?_ | refine bka ?_ _)); exact BK550.out) hb); have n2_ := As0.mk (bwp (by repeat (first | (with_reducible first | exact HB.out | apply bwa | apply pwN | apply bwd | refine bws ?_ GE550.out) | exact HB.out)) hb); clear HO_12; clear BK550; clear HB; have HO_12 := n0_; have BK550 := n1_; have HB := n2_; clear n0_ n1_ n2_; (try clear hb); (try clear hb2); (try clear hk); (try clear hi); have p557 : 0 ≤ (x13_2 : Int) := of_decide_eq_true (by first | (with_reducible assumption) | assumption); have q557 : x13_2 < (l0.length : Int) := of_decide_eq_true (by first | (with_reducible assumption) | assumption); obtain ⟨ad557, A557_3, c557_3, e557, hx557_0, hx557_1, hx557_2, hx557_3, hl557_3, hi557_3⟩ := at_T24 HR0.out x13_2 p557 q557; obtain rfl : ad555 = ad557 := (by injection e557); replace hx557_0 := (HB.out.cell (World.block_lt_of_cell? w _ hx557_0)).trans hx557_0; replace hx557_1 := (HB.out.cell (World.block_lt_of_cell? w _ hx557_1)).trans hx557_1; replace hx557_2 := (HB.out.cell (World.block_lt_of_cell? w _ hx557_2)).trans hx557_2; replace hx557_3 := (HB.out.cell (World.block_lt_of_cell? w _ hx557_3)).trans hx557_3; have HR557_3 := As0.mk hi557_3; have HC557_3 := As0.mk hl557_3; clear hi557_3 hl557_3; replace p557 := eq_true p557; replace q557 := eq_true q557) | ((with_reducible refine gate_callee (f := 74) rfl ?_); refine goesL_ (some 62) rfl rfl Tryz.func74 (by kernel_rfl) rfl #[.agg #[.int .i64 ((rd_T24 l0 x13_2).f0), .int .i64 ((rd_T24 l0 x13_2).f1), .int .i64 ((rd_T24 l0 x13_2).f2), .slice A557_3 ((rd_T24 l0 x13_2).f3).length c557_3]] rfl (by (try simp only [List.map_toArray, List.map_cons, List.map_nil]); first | done | rfl | (simp only [List.length_drop, List.length_take]; rfl)) ?_; (with_reducible refine (r15_of.calls ((rd_T24 l0 x13_2).f0) ((rd_T24 l0 x13_2).f1) ((rd_T24 l0 x13_2).f2) _ _ ((rd_T24 l0 x13_2).f3) t558 t559 t560 t561 _ ?side1 ?side2 A22.out).mono ?_); (case side1 => repeat (first | exact (Kd.C_below HR557_3.out HB.out) | (with_reducible refine Kd.C_alloc ?_ _) | (with_reducible refine Kd.C_drewN ?_ _) | (with_reducible refine Kd.C_drew ?_))); (case side2 => exact HC557_3.out); rintro e w25 ⟨rfl, hb⟩; refine ⟨_, rfl, ?_⟩; have n0_ := As0.mk (Kd.R_below (by (with_reducible repeat (first | apply Kd.R_alloc | apply Kd.R_drewN | apply Kd.R_drew)); exact HO_12.out) hb); have n1_ := As0.mk (bkb (g := gb550) (o := .cells #[.int .i64 x551000_2, .int .i64 x551001_2, .int .i64 x551002_2, .slice none 0 0] 24 (0, 0)) (by (with_reducible repeat (first | refine bkN ?_ _ | refine bkd ?_ | refine bka ?_ _)); exact BK550.out) hb); have n2_ := As0.mk (bwp (by repeat (first | (with_reducible first | exact HB.out | apply bwa | apply pwN | apply bwd | refine bws ?_ GE550.out) | exact HB.out)) hb); clear HO_12; clear BK550; clear HB; have HO_12 := n0_; have BK550 := n1_; have HB := n2_; clear n0_ n1_ n2_; (try clear hb); (try clear hb2); (try clear hk); (try clear hi)) | ((with_reducible refine gate_builtin (b := .append) (xs := #[.tmp 57, .tmp 63]) rfl ?_); (try (refine gate_guard (by rfl) ?_; dsimp only)); at_builtin; refine Kd.R_append k111 (w0 := w) w.heap.size rfl (.tmp 57) (.tmp 63) 109 111 (.agg #[(.int .i64 0), (.int .i64 0), (.int .i64 0), (.int .i64 0)]) 32 rfl Tryz.underlying109 info111 rfl (by decide) (by omega) u12 x12_2 (⟨t558, t559, t560, t561⟩ : S111) [.int .i64 t558, .int .i64 t559, .int .i64 t560, .int .i64 t561] (fun _ => True) (fun _ => False) rfl rfl ?aP (fun _ hk => hk.elim) ?aF ?aO ?aB ?aS ?aL ?_; (case aP => exact k111_mkM _ _ _ (⟨t558, t559, t560, t561⟩ : S111)); (case aB => exact (by repeat (first | (with_reducible first | exact HB.out | apply bwa | apply pwN | apply bwd | refine bws ?_ GE550.out) | exact HB.out))); (case aF => exact (fun _ _ => trivial)); (case aO => exact (by (with_reducible repeat (first | apply Kd.R_alloc | apply Kd.R_drewN | apply Kd.R_drew)); exact HO_12.out)); (case aS => exact (bwz (by repeat (first | (with_reducible first | exact HB.out | apply bwa | apply pwN | apply bwd | refine bws ?_ GE550.out) | exact HB.out)))); (case aL => have := LMc23.out; omega); intro v563 w26 ho hb hg hat; rw [← Ny562.out] at ho; have n0_ := As0.mk (blk_grown (g := gb550) (o := .cells #[.int .i64 x551000_2, .int .i64 x551001_2, .int .i64 x551002_2, .slice none 0 0] 24 (0, 0)) (by (with_reducible repeat (first | refine bkN ?_ _ | refine bkd ?_ | refine bka ?_ _)); exact BK550.out) hg (Kd.R_ne HO_12.out BK550.out (by decide))); have n1_ := As0.mk (hb); have n2_ := As0.mk (ho); clear BK550; clear HB; clear HO_12; have BK550 := n0_; have HB := n1_; have HO564 := n2_; clear n0_ n1_ n2_; clear ho hb hg hat))
          go_roundg k2
          case measure => have := HJ5.out; have := HK2.out; omega
          case rel => exact ⟨(y562), (wrap64 (x13_2 + 1)), (x551000_2), (x551001_2), (x551002_2), (by first | rfl | (simp; done) | (simp [*]; done)), H', ⟨by have := HJ5.out; have := HK2.out; omega⟩, ⟨by (with_reducible repeat (first | apply Kd.R_alloc | apply Kd.R_drewN | apply Kd.R_drew)); exact HO564.out⟩, ⟨by (with_reducible repeat (first | refine bkN ?_ _ | refine bkd ?_ | refine bka ?_ _)); exact BK550.out⟩, ⟨by repeat (first | (with_reducible first | exact HB.out | apply bwa | apply pwN | apply bwd | refine bws ?_ GE550.out) | exact HB.out)⟩⟩
         ·rw [if_neg c23] at H
          exact absurd H (by simp)
        ·rw [if_neg c21] at H
         have c21b0 : (t556 == 0) = false := beq_eq_false_iff_ne.mpr c21
         have c21b1 : (t556 != 0) = true := bne_iff_ne.mpr c21
         simp only [Option.some.injEq, Prod.mk.injEq] at H
         obtain ⟨rfl, rfl, rfl, rfl, rfl⟩ := H
         have p555 : 0 ≤ (x13_2 : Int) := of_decide_eq_true (by first | (with_reducible assumption) | assumption)
         have q555 : x13_2 < (l0.length : Int) := of_decide_eq_true (by first | (with_reducible assumption) | assumption)
         obtain ⟨ad555, A555_3, c555_3, e555, hx555_0, hx555_1, hx555_2, hx555_3, hl555_3, hi555_3⟩ := at_T24 HR0.out x13_2 p555 q555
         cases e555
         replace hx555_0 := (HB.out.cell (World.block_lt_of_cell? w _ hx555_0)).trans hx555_0
         replace hx555_1 := (HB.out.cell (World.block_lt_of_cell? w _ hx555_1)).trans hx555_1
         replace hx555_2 := (HB.out.cell (World.block_lt_of_cell? w _ hx555_2)).trans hx555_2
         replace hx555_3 := (HB.out.cell (World.block_lt_of_cell? w _ hx555_3)).trans hx555_3
         have HR555_3 := As0.mk hi555_3
         have HC555_3 := As0.mk hl555_3
         clear hi555_3 hl555_3
         replace p555 := eq_true p555
         replace q555 := eq_true q555
         go_wp2_with (first | ((with_reducible refine gate_callee (f := 30) rfl ?_); refine goesL_ (some 52) rfl rfl Tryz.func30 (by kernel_rfl) rfl #[.agg #[.int .i64 ((rd_T24 l0 x13_2).f0), .int .i64 ((rd_T24 l0 x13_2).f1), .int .i64 ((rd_T24 l0 x13_2).f2), .slice A555_3 ((rd_T24 l0 x13_2).f3).length c555_3]] rfl (by (try simp only [List.map_toArray, List.map_cons, List.map_nil]); first | done | rfl | (simp only [List.length_drop, List.length_take]; rfl)) ?_; (with_reducible refine (r14_Check.calls k2 ((rd_T24 l0 x13_2).f0) ((rd_T24 l0 x13_2).f1) ((rd_T24 l0 x13_2).f2) _ _ ((rd_T24 l0 x13_2).f3) t556 _ ?side1 ?side2 A20.out).mono ?_); (case side1 => repeat (first | exact (Kd.C_below HR555_3.out HB.out) | (with_reducible refine Kd.C_alloc ?_ _) | (with_reducible refine Kd.C_drewN ?_ _) | (with_reducible refine Kd.C_drew ?_))); (case side2 => exact HC555_3.out); rintro e w27 ⟨rfl, hb⟩; refine ⟨_, rfl, ?_⟩; have n0_ := As0.mk (Kd.R_below (by (with_reducible repeat (first | apply Kd.R_alloc | apply Kd.R_drewN | apply Kd.R_drew)); exact HO_12.out) hb); have n1_ := As0.mk (bkb (g := gb550) (o := .cells #[.int .i64 x551000_2, .int .i64 x551001_2, .int .i64 x551002_2, .slice none 0 0] 24 (0, 0)) (by (with_reducible repeat (first | refine bkN ?_ _ | refine bkd ?_ | refine bka ?_ _)); exact BK550.out) hb); have n2_ := As0.mk (bwp (by repeat (first | (with_reducible first | exact HB.out | apply bwa | apply pwN | apply bwd | refine bws ?_ GE550.out) | exact HB.out)) hb); clear HO_12; clear BK550; clear HB; have HO_12 := n0_; have BK550 := n1_; have HB := n2_; clear n0_ n1_ n2_; (try clear hb); (try clear hb2); (try clear hk); (try clear hi); have hcz28_0 : w27.cell? ⟨gb550, 0, none⟩ = some (.int .i64 x551000_2) := (bkc BK550.out 0).trans rfl; have hcz28_1 : w27.cell? ⟨gb550, 1, none⟩ = some (.int .i64 x551001_2) := (bkc BK550.out 1).trans rfl; have hcz28_2 : w27.cell? ⟨gb550, 2, none⟩ = some (.int .i64 x551002_2) := (bkc BK550.out 2).trans rfl; have hcz28_3 : w27.cell? ⟨gb550, 3, none⟩ = some (.slice none 0 0) := (bkc BK550.out 3).trans rfl; have hfz28_0 := bkz BK550.out 0; have hfz28_1 := bkz BK550.out 1; have hfz28_2 := bkz BK550.out 2; have hfz28_3 := bkz BK550.out 3))
         refine bodyPost_ret (results_ct rfl _ _ gb550 24 #[.int .i64 0, .int .i64 0, .int .i64 0, .slice none 0 0] (0, 0) _ rfl (by (with_reducible repeat (first | refine bkN ?_ _ | refine bkd ?_ | refine bka ?_ _)); refine blk_put (cs := #[.int .i64 0, .int .i64 0, .int .i64 0, .slice none 0 0]) ?_ 3 _ rfl; (with_reducible repeat (first | refine bkN ?_ _ | refine bkd ?_ | refine bka ?_ _)); refine blk_put (cs := #[.int .i64 0, .int .i64 0, .int .i64 x551002_2, .slice none 0 0]) ?_ 2 _ rfl; (with_reducible repeat (first | refine bkN ?_ _ | refine bkd ?_ | refine bka ?_ _)); refine blk_put (cs := #[.int .i64 0, .int .i64 x551001_2, .int .i64 x551002_2, .slice none 0 0]) ?_ 1 _ rfl; (with_reducible repeat (first | refine bkN ?_ _ | refine bkd ?_ | refine bka ?_ _)); refine blk_put (cs := #[.int .i64 x551000_2, .int .i64 x551001_2, .int .i64 x551002_2, .slice none 0 0]) ?_ 0 _ rfl; (with_reducible repeat (first | refine bkN ?_ _ | refine bkd ?_ | refine bka ?_ _)); exact BK550.out) Tryz.underlying24 rfl (by kernel_rfl)) rfl ?_
         exact ⟨_, by first | rfl | (simp [errW_none, errW_some] <;> rfl) | (simp [*, errW_none, errW_some] <;> rfl), by first | exact Kd.S_nil _ _ _ _ _ | exact Kd.N_nil _ _ _ _ _ | exact Kd.V_nil _ _ _ _ _ | exact Kd.Q_nil _ _ _ _ _ | exact Kd.R_nil _ _ _ _ _, by repeat (first | (with_reducible first | exact HB.out | apply bwa | apply pwN | apply bwd | refine bws ?_ GE550.out) | exact HB.out)⟩
       ·rw [if_neg c19] at H
        exact absurd H (by simp)
      ·rw [if_neg c18] at H
       have c18b0 : decide (x13_2 < (l0.length : Int)) = false := decide_eq_false c18
       clear c18
       replace H := Option.bind_eq_some_iff.mp H
       obtain ⟨t565, A290, H⟩ := H
       replace H : (if t565 = true then ((r15_laid.f k2 l0 a1 a2 a3 a4).bind fun bt566 => (some (bt566.1, bt566.2.1, bt566.2.2.1, bt566.2.2.2, 0))) else (some (0, 0, 0, ([] : List (List Int)), 151))) = some (r1, r2, r3, r4, r5) := H
       have A29 := As0.mk A290
       clear A290
       by_cases c30 : t565 = true
       ·subst c30
        have H1 : ((r15_laid.f k2 l0 a1 a2 a3 a4).bind fun bt566 => (some (bt566.1, bt566.2.1, bt566.2.2.1, bt566.2.2.2, 0))) = some (r1, r2, r3, r4, r5) := by rw [if_pos rfl] at H; exact H
        clear H
        have H := H1
        clear H1
        replace H := Option.bind_eq_some_iff.mp H
        obtain ⟨⟨t566, t567, t568, t569⟩, A310, H⟩ := H
        replace H : (some (t566, t567, t568, t569, 0)) = some (r1, r2, r3, r4, r5) := H
        have A31 := As0.mk A310
        clear A310
        simp only [Option.some.injEq, Prod.mk.injEq] at H
        obtain ⟨rfl, rfl, rfl, rfl, rfl⟩ := H
        obtain ⟨Ao32, co32, eo32⟩ := Kd.R_slice HO_12.out
        subst eo32
        go_wp2_with (first | ((with_reducible refine gate_callee (f := 75) rfl ?_); refine goesL_ (some 70) rfl rfl Tryz.func75 (by kernel_rfl) rfl #[.slice Ao32 x12_2.length co32, .int .i64 a1, .int .i64 a2, .int .i64 a3, .int .i64 a4] rfl (by (try simp only [List.map_toArray, List.map_cons, List.map_nil]); first | done | rfl | (simp only [List.length_drop, List.length_take]; rfl)) ?_; (with_reducible refine (r15_gridFits.calls k2 _ _ x12_2 a1 a2 a3 a4 true _ ?side1 ?side2 A29.out).mono ?_); (case side1 => repeat (first | exact (Kd.R_reads' HO_12.out).2.2 | (with_reducible refine Kd.C_alloc ?_ _) | (with_reducible refine Kd.C_drewN ?_ _) | (with_reducible refine Kd.C_drew ?_))); (case side2 => exact (Kd.R_reads' HO_12.out).2.1); rintro e w' ⟨rfl, ⟨nd, rfl⟩⟩; refine ⟨_, rfl, ?_⟩; (try (rw [drewN_self wr]; generalize hq_ : World.drewN wr _ = wr; have n0_ : As0 (Kd.R k111 111 wr w.heap.size (fun _ => True) (.slice Ao32 x12_2.length co32) x12_2) := ⟨by rw [← hq_]; exact (by (with_reducible repeat (first | apply Kd.R_alloc | apply Kd.R_drewN | apply Kd.R_drew)); exact HO_12.out)⟩; have n1_ : As0 (wr.heap[gb550]? = some (.cells #[.int .i64 x551000_2, .int .i64 x551001_2, .int .i64 x551002_2, .slice none 0 0] 24 (0, 0))) := ⟨by rw [← hq_]; exact (by (with_reducible repeat (first | refine bkN ?_ _ | refine bkd ?_ | refine bka ?_ _)); exact BK550.out)⟩; have n2_ : As0 (Below w.heap.size w wr) := ⟨by rw [← hq_]; exact (by repeat (first | (with_reducible first | exact HB.out | apply bwa | apply pwN | apply bwd | refine bws ?_ GE550.out) | exact HB.out))⟩; clear HO_12 BK550 HB hq_; have HO_12 := n0_; have BK550 := n1_; have HB := n2_; clear n0_ n1_ n2_))) | ((with_reducible refine gate_callee (f := 76) rfl ?_); refine goesL_ (some 78) rfl rfl Tryz.func76 (by kernel_rfl) rfl #[.slice A0 l0.length c0, .int .i64 a1, .int .i64 a2, .int .i64 a3, .int .i64 a4] rfl (by (try simp only [List.map_toArray, List.map_cons, List.map_nil]); first | done | rfl | (simp only [List.length_drop, List.length_take]; rfl)) ?_; (with_reducible refine (r15_laid.calls k2 _ _ l0 a1 a2 a3 a4 t566 t567 t568 t569 _ ?side1 ?side2 A31.out).mono ?_); (case side1 => repeat (first | exact (Kd.C_below HR0.out HB.out) | (with_reducible refine Kd.C_alloc ?_ _) | (with_reducible refine Kd.C_drewN ?_ _) | (with_reducible refine Kd.C_drew ?_))); (case side2 => exact HC0.out); rintro e w33 ⟨v570, rfl, ho0, hb⟩; refine ⟨_, rfl, ?_⟩; have n0_ := As0.mk (Kd.R_below (by (with_reducible repeat (first | apply Kd.R_alloc | apply Kd.R_drewN | apply Kd.R_drew)); exact HO_12.out) hb); have n1_ := As0.mk (Kd.S_lower ho0 (bwz (by repeat (first | (with_reducible first | exact HB.out | apply bwa | apply pwN | apply bwd | refine bws ?_ GE550.out) | exact HB.out)))); have n2_ := As0.mk (bkb (g := gb550) (o := .cells #[.int .i64 x551000_2, .int .i64 x551001_2, .int .i64 x551002_2, .slice none 0 0] 24 (0, 0)) (by (with_reducible repeat (first | refine bkN ?_ _ | refine bkd ?_ | refine bka ?_ _)); exact BK550.out) hb); have n3_ := As0.mk (bwp (by repeat (first | (with_reducible first | exact HB.out | apply bwa | apply pwN | apply bwd | refine bws ?_ GE550.out) | exact HB.out)) hb); clear HO_12; clear BK550; clear HB; have HO_12 := n0_; have HO571 := n1_; have BK550 := n2_; have HB := n3_; clear n0_ n1_ n2_ n3_; (try clear hb); (try clear hb2); (try clear hk); (try clear hi); (try clear ho0); have hcz34_0 : w33.cell? ⟨gb550, 0, none⟩ = some (.int .i64 x551000_2) := (bkc BK550.out 0).trans rfl; have hcz34_1 : w33.cell? ⟨gb550, 1, none⟩ = some (.int .i64 x551001_2) := (bkc BK550.out 1).trans rfl; have hcz34_2 : w33.cell? ⟨gb550, 2, none⟩ = some (.int .i64 x551002_2) := (bkc BK550.out 2).trans rfl; have hcz34_3 : w33.cell? ⟨gb550, 3, none⟩ = some (.slice none 0 0) := (bkc BK550.out 3).trans rfl; have hfz34_0 := bkz BK550.out 0; have hfz34_1 := bkz BK550.out 1; have hfz34_2 := bkz BK550.out 2; have hfz34_3 := bkz BK550.out 3; obtain ⟨Ao35, co35, eo35⟩ := Kd.S_slice HO571.out; subst eo35))
        refine bodyPost_ret (results_ct rfl _ _ gb550 24 #[.int .i64 t566, .int .i64 t567, .int .i64 t568, .slice Ao35 t569.length co35] (0, 0) _ rfl (by (with_reducible repeat (first | refine bkN ?_ _ | refine bkd ?_ | refine bka ?_ _)); refine blk_put (cs := #[.int .i64 t566, .int .i64 t567, .int .i64 t568, .slice none 0 0]) ?_ 3 _ rfl; (with_reducible repeat (first | refine bkN ?_ _ | refine bkd ?_ | refine bka ?_ _)); refine blk_put (cs := #[.int .i64 t566, .int .i64 t567, .int .i64 x551002_2, .slice none 0 0]) ?_ 2 _ rfl; (with_reducible repeat (first | refine bkN ?_ _ | refine bkd ?_ | refine bka ?_ _)); refine blk_put (cs := #[.int .i64 t566, .int .i64 x551001_2, .int .i64 x551002_2, .slice none 0 0]) ?_ 1 _ rfl; (with_reducible repeat (first | refine bkN ?_ _ | refine bkd ?_ | refine bka ?_ _)); refine blk_put (cs := #[.int .i64 x551000_2, .int .i64 x551001_2, .int .i64 x551002_2, .slice none 0 0]) ?_ 0 _ rfl; (with_reducible repeat (first | refine bkN ?_ _ | refine bkd ?_ | refine bka ?_ _)); exact BK550.out) Tryz.underlying24 rfl (by kernel_rfl)) rfl ?_
        exact ⟨_, by first | rfl | (simp [errW_none, errW_some] <;> rfl) | (simp [*, errW_none, errW_some] <;> rfl), by (with_reducible repeat (first | apply Kd.S_alloc | apply Kd.S_drewN | apply Kd.S_drew)); exact Kd.S_mono (Kd.S_far (p := ⟨gb550, 3, none⟩) (Kd.S_far (p := ⟨gb550, 2, none⟩) (Kd.S_far (p := ⟨gb550, 1, none⟩) (Kd.S_far (p := ⟨gb550, 0, none⟩) (Kd.S_types HO571.out BK550.out (by decide)) (fun _ hk => hk.2) (.int .i64 t566)) (fun _ hk => hk.2) (.int .i64 t567)) (fun _ hk => hk.2) (.int .i64 t568)) (fun _ hk => hk.2) (.slice Ao35 t569.length co35)) (fun _ hk => trivial), by repeat (first | (with_reducible first | exact HB.out | apply bwa | apply pwN | apply bwd | refine bws ?_ GE550.out) | exact HB.out)⟩
       ·replace c30 := Bool.eq_false_iff.mpr c30
        subst c30
        have H1 : (some (0, 0, 0, ([] : List (List Int)), 151)) = some (r1, r2, r3, r4, r5) := by rw [if_neg (show ¬ (false = true) by decide)] at H; exact H
        clear H
        have H := H1
        clear H1
        simp only [Option.some.injEq, Prod.mk.injEq] at H
        obtain ⟨rfl, rfl, rfl, rfl, rfl⟩ := H
        obtain ⟨Ao36, co36, eo36⟩ := Kd.R_slice HO_12.out
        subst eo36
        go_wp2_with (first | ((with_reducible refine gate_callee (f := 75) rfl ?_); refine goesL_ (some 70) rfl rfl Tryz.func75 (by kernel_rfl) rfl #[.slice Ao36 x12_2.length co36, .int .i64 a1, .int .i64 a2, .int .i64 a3, .int .i64 a4] rfl (by (try simp only [List.map_toArray, List.map_cons, List.map_nil]); first | done | rfl | (simp only [List.length_drop, List.length_take]; rfl)) ?_; (with_reducible refine (r15_gridFits.calls k2 _ _ x12_2 a1 a2 a3 a4 false _ ?side1 ?side2 A29.out).mono ?_); (case side1 => repeat (first | exact (Kd.R_reads' HO_12.out).2.2 | (with_reducible refine Kd.C_alloc ?_ _) | (with_reducible refine Kd.C_drewN ?_ _) | (with_reducible refine Kd.C_drew ?_))); (case side2 => exact (Kd.R_reads' HO_12.out).2.1); rintro e w' ⟨rfl, ⟨nd, rfl⟩⟩; refine ⟨_, rfl, ?_⟩; (try (rw [drewN_self wr]; generalize hq_ : World.drewN wr _ = wr; have n0_ : As0 (Kd.R k111 111 wr w.heap.size (fun _ => True) (.slice Ao36 x12_2.length co36) x12_2) := ⟨by rw [← hq_]; exact (by (with_reducible repeat (first | apply Kd.R_alloc | apply Kd.R_drewN | apply Kd.R_drew)); exact HO_12.out)⟩; have n1_ : As0 (wr.heap[gb550]? = some (.cells #[.int .i64 x551000_2, .int .i64 x551001_2, .int .i64 x551002_2, .slice none 0 0] 24 (0, 0))) := ⟨by rw [← hq_]; exact (by (with_reducible repeat (first | refine bkN ?_ _ | refine bkd ?_ | refine bka ?_ _)); exact BK550.out)⟩; have n2_ : As0 (Below w.heap.size w wr) := ⟨by rw [← hq_]; exact (by repeat (first | (with_reducible first | exact HB.out | apply bwa | apply pwN | apply bwd | refine bws ?_ GE550.out) | exact HB.out))⟩; clear HO_12 BK550 HB hq_; have HO_12 := n0_; have BK550 := n1_; have HB := n2_; clear n0_ n1_ n2_)); have hcz37_0 : wr.cell? ⟨gb550, 0, none⟩ = some (.int .i64 x551000_2) := (bkc BK550.out 0).trans rfl; have hcz37_1 : wr.cell? ⟨gb550, 1, none⟩ = some (.int .i64 x551001_2) := (bkc BK550.out 1).trans rfl; have hcz37_2 : wr.cell? ⟨gb550, 2, none⟩ = some (.int .i64 x551002_2) := (bkc BK550.out 2).trans rfl; have hcz37_3 : wr.cell? ⟨gb550, 3, none⟩ = some (.slice none 0 0) := (bkc BK550.out 3).trans rfl; have hfz37_0 := bkz BK550.out 0; have hfz37_1 := bkz BK550.out 1; have hfz37_2 := bkz BK550.out 2; have hfz37_3 := bkz BK550.out 3))
        refine bodyPost_ret (results_ct rfl _ _ gb550 24 #[.int .i64 0, .int .i64 0, .int .i64 0, .slice none 0 0] (0, 0) _ rfl (by (with_reducible repeat (first | refine bkN ?_ _ | refine bkd ?_ | refine bka ?_ _)); refine blk_put (cs := #[.int .i64 0, .int .i64 0, .int .i64 0, .slice none 0 0]) ?_ 3 _ rfl; (with_reducible repeat (first | refine bkN ?_ _ | refine bkd ?_ | refine bka ?_ _)); refine blk_put (cs := #[.int .i64 0, .int .i64 0, .int .i64 x551002_2, .slice none 0 0]) ?_ 2 _ rfl; (with_reducible repeat (first | refine bkN ?_ _ | refine bkd ?_ | refine bka ?_ _)); refine blk_put (cs := #[.int .i64 0, .int .i64 x551001_2, .int .i64 x551002_2, .slice none 0 0]) ?_ 1 _ rfl; (with_reducible repeat (first | refine bkN ?_ _ | refine bkd ?_ | refine bka ?_ _)); refine blk_put (cs := #[.int .i64 x551000_2, .int .i64 x551001_2, .int .i64 x551002_2, .slice none 0 0]) ?_ 0 _ rfl; (with_reducible repeat (first | refine bkN ?_ _ | refine bkd ?_ | refine bka ?_ _)); exact BK550.out) Tryz.underlying24 rfl (by kernel_rfl)) rfl ?_
        exact ⟨_, by first | rfl | (simp [errW_none, errW_some] <;> rfl) | (simp [*, errW_none, errW_some] <;> rfl), by first | exact Kd.S_nil _ _ _ _ _ | exact Kd.N_nil _ _ _ _ _ | exact Kd.V_nil _ _ _ _ _ | exact Kd.Q_nil _ _ _ _ _ | exact Kd.R_nil _ _ _ _ _, by repeat (first | (with_reducible first | exact HB.out | apply bwa | apply pwN | apply bwd | refine bws ?_ GE550.out) | exact HB.out)⟩
theorem rdT24_at (l : List S24) (p : Nat) (x : S24) (h : l[p]? = some x) : rd_T24 l (p : Int) = x := by
 simp [rd_T24, List.getD_eq_getElem?_getD, h]
def sh104 (x : S24) : S104 := ⟨x.f0, x.f1, x.f2, (x.f3.length : Int)⟩
def sh111 (x : S24) : S111 := ⟨x.f0, x.f1, x.f2, (x.f3.length : Int)⟩
theorem rd104 (l : List S24) (j : Nat) (x : S24) (h : l[j]? = some x) : rd_T104 (l.map sh104) (j : Int) = sh104 x := by
 simp [rd_T104, List.getD_eq_getElem?_getD, h]
theorem rd111 (l : List S24) (j : Nat) (x : S24) (h : l[j]? = some x) : rd_T111 (l.map sh111) (j : Int) = sh111 x := by
 simp [rd_T111, List.getD_eq_getElem?_getD, h]
def offB (x y : S24) : Bool := (!((x.f0) == (y.f0)) || (!((x.f1) == (y.f1)) || (!((x.f2) == (y.f2)) || (!(((x.f3.length : Int)) == ((y.f3.length : Int)))))))
section
variable (l : List S24) (rows cols wide high : Int) (hl : l.length ≤ 70) (x0 : S24) (h0 : l[0]? = some x0)
def fitB (rows cols wide high : Int) (x0 : S24) : Bool := (decide (wrap64 (wrap64 (cols - 1) * x0.f0) < wide) && decide (wide ≤ wrap64 (cols * x0.f0))) && (decide (wrap64 (wrap64 (rows - 1) * x0.f1) < high) && decide (high ≤ wrap64 (rows * x0.f1)))
include hl h0 in
theorem shape_l0 : ∀ (n j : Nat), j + n = l.length → Ev fun k => item_gridShape.l0 k (l.map sh104) rows cols wide high (l.map sh104) ((l.map sh104).length : Int) j =
  some (if (l.drop j).any (fun x => offB x x0) = true then (0, 0, 0, 0, 151) else if fitB rows cols wide high x0 = true then (wide, high, x0.f2, (x0.f3.length : Int), 0) else (0, 0, 0, 0, 151)) := by
 have hlen : (l.map sh104).length = l.length := by simp
 have hpos : 0 < l.length := (List.getElem?_eq_some_iff.1 h0).1
 have hr0 : rd_T104 (l.map sh104) 0 = sh104 x0 := rd104 l 0 x0 h0
 intro n
 induction n with
 | zero =>
  intro j hj
  have hR : (if (l.drop j).any (fun x => offB x x0) = true then ((0 : Int), (0 : Int), (0 : Int), (0 : Int), (151 : Int)) else if fitB rows cols wide high x0 = true then (wide, high, x0.f2, (x0.f3.length : Int), 0) else (0, 0, 0, 0, 151)) = if fitB rows cols wide high x0 = true then (wide, high, x0.f2, (x0.f3.length : Int), 0) else (0, 0, 0, 0, 151) := by
   rw [List.drop_eq_nil_of_le (by omega)]
   exact if_neg (by simp)
  refine Ev.const fun k => ?_
  rw [hR, item_gridShape.l0, if_neg (by omega), if_pos (by omega), hr0]
  show (if wide ≤ wrap64 (wrap64 (cols - 1) * x0.f0) then some (0, 0, 0, 0, 151) else (if wide > wrap64 (cols * x0.f0) then some (0, 0, 0, 0, 151) else (if high ≤ wrap64 (wrap64 (rows - 1) * x0.f1) then some (0, 0, 0, 0, 151) else (if high > wrap64 (rows * x0.f1) then some (0, 0, 0, 0, 151) else some (wide, high, x0.f2, (x0.f3.length : Int), 0))))) = _
  unfold fitB
  generalize wrap64 (wrap64 (cols - 1) * x0.f0) = b1
  generalize wrap64 (cols * x0.f0) = b2
  generalize wrap64 (wrap64 (rows - 1) * x0.f1) = b3
  generalize wrap64 (rows * x0.f1) = b4
  by_cases c1 : wide ≤ b1
  ·rw [if_pos c1, decide_eq_false (by omega)]; rfl
  ·rw [if_neg c1, decide_eq_true (by omega : b1 < wide)]
   by_cases c2 : wide > b2
   ·rw [if_pos c2, decide_eq_false (by omega : ¬ wide ≤ b2)]; rfl
   ·rw [if_neg c2, decide_eq_true (by omega : wide ≤ b2)]
    by_cases c3 : high ≤ b3
    ·rw [if_pos c3, decide_eq_false (by omega : ¬ b3 < high)]; rfl
    ·rw [if_neg c3, decide_eq_true (by omega : b3 < high)]
     by_cases c4 : high > b4
     ·rw [if_pos c4, decide_eq_false (by omega : ¬ high ≤ b4)]; rfl
     ·rw [if_neg c4, decide_eq_true (by omega : high ≤ b4)]; rfl
 | succ n ih =>
  intro j hj
  have hjl : j < l.length := by omega
  have hx : l[j]? = some l[j] := List.getElem?_eq_getElem hjl
  rw [drop_at l j _ hx, List.any_cons]
  have hrj := rd104 l j _ hx
  generalize l[j] = x at hrj
  have hst : ∀ k, item_gridShape.l0 (k + 1) (l.map sh104) rows cols wide high (l.map sh104) ((l.map sh104).length : Int) j = if offB x x0 = true then some (0, 0, 0, 0, 151) else item_gridShape.l0 k (l.map sh104) rows cols wide high (l.map sh104) ((l.map sh104).length : Int) ((j + 1 : Nat) : Int) := by
   intro k
   rw [item_gridShape.l0, if_pos (by omega), if_pos (by omega), if_pos (by omega), if_pos (by omega), hr0, hrj, w64_succ j (by omega)]
   rfl
  by_cases ho : offB x x0 = true
  ·exact Ev.const fun k => by rw [hst, if_pos ho, ho, Bool.true_or, if_pos rfl]
  ·rw [Bool.eq_false_iff.2 ho, Bool.false_or]
   exact Ev.step (fun k => by rw [hst, if_neg ho]) (ih (j + 1) (by omega))
include hl h0 in
theorem fits_l0 : ∀ (n j : Nat), j + n = l.length → Ev fun k => r15_gridFits.l0 k (l.map sh111) rows cols wide high j =
  some (!((l.drop j).any (fun x => offB x x0)) && fitB rows cols wide high x0) := by
 have hlen : (l.map sh111).length = l.length := by simp
 have hpos : 0 < l.length := (List.getElem?_eq_some_iff.1 h0).1
 have hr0 : rd_T111 (l.map sh111) 0 = sh111 x0 := rd111 l 0 x0 h0
 intro n
 induction n with
 | zero =>
  intro j hj
  refine Ev.const fun k => ?_
  rw [r15_gridFits.l0, if_neg (by omega), if_pos (by omega), hr0, List.drop_eq_nil_of_le (by omega)]
  show ((r15_covers.f cols x0.f0 wide).bind fun t528 => (if t528 = true then ((r15_covers.f rows x0.f1 high).bind fun t530 => (some t530)) else (some false))) = some (true && fitB rows cols wide high x0)
  unfold r15_covers.f fitB
  generalize wrap64 (wrap64 (cols - 1) * x0.f0) = b1
  generalize wrap64 (cols * x0.f0) = b2
  generalize wrap64 (wrap64 (rows - 1) * x0.f1) = b3
  generalize wrap64 (rows * x0.f1) = b4
  by_cases c1 : b1 < wide
  ·rw [if_pos c1, decide_eq_true c1]
   by_cases c2 : wide ≤ b2
   ·rw [decide_eq_true c2, Option.bind_some, if_pos rfl]
    by_cases c3 : b3 < high
    ·rw [if_pos c3, decide_eq_true c3]; simp
    ·rw [if_neg c3, decide_eq_false c3]; simp
   ·rw [decide_eq_false c2, Option.bind_some, if_neg (by decide)]; simp
  ·rw [if_neg c1, decide_eq_false c1, Option.bind_some, if_neg (by decide)]; simp
 | succ n ih =>
  intro j hj
  have hjl : j < l.length := by omega
  have hx : l[j]? = some l[j] := List.getElem?_eq_getElem hjl
  rw [drop_at l j _ hx, List.any_cons]
  have hrj := rd111 l j _ hx
  generalize l[j] = x at hrj
  have hst : ∀ k, r15_gridFits.l0 (k + 1) (l.map sh111) rows cols wide high j = if offB x x0 = true then some false else r15_gridFits.l0 k (l.map sh111) rows cols wide high ((j + 1 : Nat) : Int) := by
   intro k
   rw [r15_gridFits.l0, if_pos (by omega), if_pos (by omega), if_pos (by omega), hr0, hrj, w64_succ j (by omega)]
   rfl
  by_cases ho : offB x x0 = true
  ·exact Ev.const fun k => by rw [hst, if_pos ho, ho]; simp
  ·rw [Bool.eq_false_iff.2 ho, Bool.false_or]
   exact Ev.step (fun k => by rw [hst, if_neg ho]) (ih (j + 1) (by omega))
end
def badG (e : Int) : Int × Int × Int × List (List Int) × Int := (0, 0, 0, [], e)
def tailG (l : List S24) (rows cols wide high : Int) (k : Nat) : Option (Int × Int × Int × List (List Int) × Int) :=
 (item_gridShape.f k (l.map sh104) rows cols wide high).bind fun bt511 => (if bt511.2.2.2.2 = 0 then ((item_tiled.f l cols wide high).bind fun bt517 => (some (bt517.1, bt517.2.1, bt517.2.2.1, bt517.2.2.2, 0))) else (some (0, 0, 0, ([] : List (List Int)), bt511.2.2.2.2)))
def tailR (l : List S24) (rows cols wide high : Int) (k : Nat) : Option (Int × Int × Int × List (List Int) × Int) :=
 (r15_gridFits.f k (l.map sh111) rows cols wide high).bind fun t565 => (if t565 = true then ((r15_laid.f k l rows cols wide high).bind fun bt566 => (some (bt566.1, bt566.2.1, bt566.2.2.1, bt566.2.2.2, 0))) else (some (0, 0, 0, ([] : List (List Int)), 151)))
def chk24 (x : S24) : Option Int := picture_Check.f x.f0 x.f1 x.f2 x.f3
structure Plain24 (l : List S24) : Prop where
 len : l.length ≤ 70
 each : ∀ x ∈ l, x.f3.length ≤ 8 ∧ ∀ r ∈ x.f3, r.length ≤ 5000
theorem grid_l0 (l : List S24) (rows cols wide high : Int) (hl : Plain24 l) : ∀ (n j : Nat), j + n = l.length →
  (∃ e, (e ≠ 0 ∧ ∃ x ∈ l.drop j, chk24 x = some e) ∧ (Ev fun k => item_Grid.l0 k l rows cols wide high ((l.take j).map sh104) l (l.length : Int) j = some (badG e)) ∧ Ev fun k => r15_Grid.l0 k l rows cols wide high ((l.take j).map sh111) j = some (badG e)) ∨
   ((∀ x ∈ l.drop j, chk24 x = some 0) ∧ (∀ R, (Ev fun k => tailG l rows cols wide high k = R) → Ev fun k => item_Grid.l0 k l rows cols wide high ((l.take j).map sh104) l (l.length : Int) j = R) ∧
    ∀ R, (Ev fun k => tailR l rows cols wide high k = R) → Ev fun k => r15_Grid.l0 k l rows cols wide high ((l.take j).map sh111) j = R) := by
 have hlen := hl.len
 intro n
 induction n with
 | zero =>
  intro j hj
  right
  rw [List.drop_eq_nil_of_le (by omega), List.take_of_length_le (by omega)]
  refine ⟨fun x hx => (by cases hx), fun R hR => Ev.step (fun k => ?_) hR, fun R hR => Ev.step (fun k => ?_) hR⟩
  ·rw [item_Grid.l0, if_neg (by omega)]; rfl
  ·rw [r15_Grid.l0, if_neg (by omega)]; rfl
 | succ n ih =>
  intro j hj
  have hjl : j < l.length := by omega
  have hx : l[j]? = some l[j] := List.getElem?_eq_getElem hjl
  have hm := hl.each _ (List.getElem_mem hjl)
  have hrd := rdT24_at l j _ hx
  have t1 : (l.take (j + 1)).map sh104 = (l.take j).map sh104 ++ [sh104 l[j]] := by rw [List.take_add_one, hx, Option.toList_some, List.map_append]; rfl
  have t2 : (l.take (j + 1)).map sh111 = (l.take j).map sh111 ++ [sh111 l[j]] := by rw [List.take_add_one, hx, Option.toList_some, List.map_append]; rfl
  rw [drop_at l j _ hx]
  generalize l[j] = x at hm hrd t1 t2
  obtain ⟨e, he⟩ : ∃ e, picture_Check.f x.f0 x.f1 x.f2 x.f3 = some e := ⟨_, rfl⟩
  have hc : Ev fun k => r14_Check.f k x.f0 x.f1 x.f2 x.f3 = some e := ⟨60000, fun k hk => (check_is _ _ _ _ hm.1 hm.2 k hk).trans he⟩
  have s1 : ∀ k, item_Grid.l0 (k + 1) l rows cols wide high ((l.take j).map sh104) l (l.length : Int) j = if e = 0 then item_Grid.l0 k l rows cols wide high ((l.take (j + 1)).map sh104) l (l.length : Int) ((j + 1 : Nat) : Int) else some (badG e) := by
   intro k
   rw [item_Grid.l0, if_pos (by omega), if_pos (by omega), if_pos (by omega), hrd, he, Option.bind_some, w64_succ j (by omega), t1]
   by_cases h0 : e = 0
   ·rw [if_pos h0, if_pos h0]
    show (if ((l.take j).map sh104).length < 4398046511104 then _ else none) = _
    rw [if_pos (by rw [List.length_map, List.length_take]; omega)]
    rfl
   ·rw [if_neg h0, if_neg h0]; rfl
  have s2 : ∀ k, r15_Grid.l0 (k + 1) l rows cols wide high ((l.take j).map sh111) j = (r14_Check.f k x.f0 x.f1 x.f2 x.f3).bind fun t => if t = 0 then r15_Grid.l0 k l rows cols wide high ((l.take (j + 1)).map sh111) ((j + 1 : Nat) : Int) else some (badG t) := by
   intro k
   rw [r15_Grid.l0, if_pos (by omega), if_pos (by omega), hrd, w64_succ j (by omega), t2]
   congr 1
   funext t
   by_cases h0 : t = 0
   ·rw [if_pos h0, if_pos h0]
    show (if ((l.take j).map sh111).length < 4398046511104 then _ else none) = _
    rw [if_pos (by rw [List.length_map, List.length_take]; omega)]
    rfl
   ·rw [if_neg h0, if_neg h0]; rfl
  by_cases h0 : e = 0
  ·rcases ih (j + 1) (by omega) with ⟨e', h1, h2, h3⟩ | ⟨h1, h2, h3⟩
   ·exact .inl ⟨e', ⟨h1.1, h1.2.elim fun y hy => ⟨y, List.mem_cons_of_mem _ hy.1, hy.2⟩⟩, Ev.step (fun k => by rw [s1, if_pos h0]) h2, Ev.step s2 (Ev.bind hc (Ev.mono h3 fun k hk => by rw [if_pos h0]; exact hk))⟩
   ·refine .inr ⟨fun y hy => ?_, fun R hR => Ev.step (fun k => by rw [s1, if_pos h0]) (h2 R hR), fun R hR => Ev.step s2 (Ev.bind hc (Ev.mono (h3 R hR) fun k hk => by rw [if_pos h0]; exact hk))⟩
    rcases List.mem_cons.1 hy with rfl | hy
    ·unfold chk24; rw [he, h0]
    ·exact h1 y hy
  ·exact .inl ⟨e, ⟨h0, x, List.mem_cons_self, he⟩, Ev.const fun k => by rw [s1, if_neg h0], Ev.step s2 (Ev.bind hc ⟨0, fun k _ => if_neg h0⟩)⟩
theorem laid_is (l : List S24) (rows cols wide high : Int) (hl : l.length ≤ 70) (ht : tileOk l cols wide high = true) (hs : ∀ x ∈ l, x.f0 = (rd_T24 l 0).f0 ∧ x.f1 = (rd_T24 l 0).f1) :
  Ev fun k => r15_laid.f k l rows cols wide high = some (wide, high, (rd_T24 l 0).f2, tlN wide.toNat high.toNat cols.toNat (rd_T24 l 0).f3.length l l.length) := by
 obtain ⟨hg, he⟩ := tileOk_each ht
 have hWH : wide.toNat * high.toNat ≤ 1000 * 1000 := Nat.mul_le_mul (by omega) (by omega)
 have hcc : 0 ≤ cols := by omega
 have wz : wrap64 (wide * high) = ((wide.toNat * high.toNat : Nat) : Int) := by
  rw [show wide * high = ((wide.toNat * high.toNat : Nat) : Int) by rw [Int.natCast_mul]; congr 1 <;> omega]
  exact w64_idn _ (by omega)
 have g1 : ∀ (n i : Nat), i + n = l.length → Ev fun k => r15_laid.l1 k l cols i wide high (rd_T24 l 0).f2 (tlN wide.toNat high.toNat cols.toNat (rd_T24 l 0).f3.length l i) = some (wide, high, (rd_T24 l 0).f2, tlN wide.toNat high.toNat cols.toNat (rd_T24 l 0).f3.length l l.length) := by
  intro n
  induction n with
  | zero =>
   intro i hi
   refine Ev.const fun k => ?_
   rw [r15_laid.l1, if_neg (by omega), show i = l.length by omega]
  | succ n ih =>
   intro i hi
   have hil : i < l.length := by omega
   have hx : l[i]? = some l[i] := List.getElem?_eq_getElem hil
   have hm := List.getElem_mem hil
   have hrd := rdT24_at l i _ hx
   have hstep : tlN wide.toNat high.toNat cols.toNat (rd_T24 l 0).f3.length l (i + 1) = putP (wide.toNat : Int) (high.toNat : Int) (((i % cols.toNat) * l[i].f0.toNat : Nat) : Int) (((i / cols.toNat) * l[i].f1.toNat : Nat) : Int) l[i].f0.toNat (l[i].f0.toNat * l[i].f1.toNat) (tlN wide.toNat high.toNat cols.toNat (rd_T24 l 0).f3.length l i) l[i].f3 := by
    conv => lhs; unfold tlN
    rw [hrd]
   have hxs := hs _ hm
   have hxe := he _ hm
   generalize l[i] = x at hm hrd hstep hxs hxe
   have hm1 : i % cols.toNat < cols.toNat := Nat.mod_lt _ (by omega)
   have hd1 : i / cols.toNat ≤ i := Nat.div_le_self _ _
   have p1 : (i % cols.toNat) * x.f0.toNat ≤ 1000 * 1000 := Nat.mul_le_mul (by omega) (by omega)
   have p2 : (i / cols.toNat) * x.f1.toNat ≤ 1000 * 1000 := Nat.mul_le_mul (by omega) (by omega)
   have ok := tlN_ok wide.toNat high.toNat cols.toNat (rd_T24 l 0).f3.length l i
   have hD : Draws wide high (((i % cols.toNat) * x.f0.toNat : Nat) : Int) (((i / cols.toNat) * x.f1.toNat : Nat) : Int) x.f0.toNat x.f1.toNat (tlN wide.toNat high.toNat cols.toNat (rd_T24 l 0).f3.length l i) x.f3 :=
    ⟨by omega, by rw [ok.1]; omega, ok.2, hxe.2⟩
   have hdr := drawn_is wide high (rd_T24 l 0).f2 _ _ x.f2 x.f0.toNat x.f1.toNat _ _ hD
   have e1 : As0 (wrap64 (Int.tmod (i : Int) cols * (rd_T24 l 0).f0) = (((i % cols.toNat) * x.f0.toNat : Nat) : Int)) := ⟨by
    rw [← hxs.1, Int.tmod_eq_emod_of_nonneg (by omega), show (i : Int) % cols = ((i % cols.toNat : Nat) : Int) by rw [Int.natCast_emod, Int.toNat_of_nonneg hcc], show ((i % cols.toNat : Nat) : Int) * x.f0 = (((i % cols.toNat) * x.f0.toNat : Nat) : Int) by rw [Int.natCast_mul]; congr 1; omega]
    exact w64_idn _ (by omega)⟩
   have e2 : As0 (wrap64 (wrap64 (Int.tdiv (i : Int) cols) * (rd_T24 l 0).f1) = (((i / cols.toNat) * x.f1.toNat : Nat) : Int)) := ⟨by
    rw [← hxs.2, Int.tdiv_eq_ediv_of_nonneg (by omega), show (i : Int) / cols = ((i / cols.toNat : Nat) : Int) by rw [Int.natCast_ediv, Int.toNat_of_nonneg hcc], w64_idn _ (by omega), show ((i / cols.toNat : Nat) : Int) * x.f1 = (((i / cols.toNat) * x.f1.toNat : Nat) : Int) by rw [Int.natCast_mul]; congr 1; omega]
    exact w64_idn _ (by omega)⟩
   rw [Int.toNat_of_nonneg (show 0 ≤ wide by omega), Int.toNat_of_nonneg (show 0 ≤ high by omega)] at hstep
   have hih := ih (i + 1) (by omega)
   rw [hstep] at hih
   rw [Int.toNat_of_nonneg (show 0 ≤ x.f0 by omega), Int.toNat_of_nonneg (show 0 ≤ x.f1 by omega)] at hdr
   refine Ev.step (fun k => ?_) (Ev.bind (g := fun k bt => r15_laid.l1 k l cols ((i + 1 : Nat) : Int) bt.1 bt.2.1 bt.2.2.1 bt.2.2.2) hdr hih)
   rw [r15_laid.l1, if_pos (by omega), if_pos (by omega), if_neg (by omega), if_pos (by omega), hrd, e1.out, e2.out, w64_succ i (by omega)]
 have g0 : ∀ (n j : Nat), j + n = (rd_T24 l 0).f3.length → Ev fun k => r15_laid.l0 k l cols wide high j wide high (rd_T24 l 0).f2 (List.replicate j (List.replicate (wide.toNat * high.toNat) 0)) = some (wide, high, (rd_T24 l 0).f2, tlN wide.toNat high.toNat cols.toNat (rd_T24 l 0).f3.length l l.length) := by
  intro n
  induction n with
  | zero =>
   intro j hj
   refine Ev.step (fun k => ?_) (g1 l.length 0 (by omega))
   rw [r15_laid.l0, if_pos (by omega), if_neg (by omega), show j = (rd_T24 l 0).f3.length by omega]
   rfl
  | succ n ih =>
   intro j hj
   refine Ev.step (fun k => ?_) (ih (j + 1) (by omega))
   rw [r15_laid.l0, if_pos (by omega), if_pos (by omega), wz, if_pos (by omega), if_pos (by omega), if_pos (by rw [List.length_replicate]; omega), w64_succ j (by omega), Int.toNat_natCast, List.replicate_succ']
 refine Ev.mono (g0 (rd_T24 l 0).f3.length 0 (by omega)) fun k hk => ?_
 unfold r15_laid.f
 rw [if_pos (by omega)]
 exact hk
def l15_pictures.l0 : Nat → List (S24) → Int → Option (Bool)
 | 0, _, _ => none
 | k + 1, x0, x3 => if x3 < (x0.length : Int) then (if 0 ≤ x3 then ((l15_plain.f k ((rd_T24 x0 x3).f0) ((rd_T24 x0 x3).f1) ((rd_T24 x0 x3).f2) ((rd_T24 x0 x3).f3)).bind fun t489 => (if t489 = true then (l15_pictures.l0 k x0 (wrap64 (x3 + 1))) else (some false))) else (none)) else (some (decide ((x0.length : Int) ≤ 70)))
def l15_pictures.f (k : Nat) (l0 : List (S24)) : Option (Bool) := l15_pictures.l0 k l0 0
set_option maxHeartbeats 8000000 in
set_option maxRecDepth 100000 in
theorem l15_pictures.calls (k : Nat) (A0 : Option Addr) (c0 : Nat) (l0 : List (S24)) (r : Bool) (w : World) (hr0 : Kd.C k24 w A0 l0.length l0) (hc0 : l0.length ≤ c0) (h : l15_pictures.f k l0 = some r) :
  Calls Tryz.prog 27 #[.slice A0 l0.length c0] w fun e w' => e = .returned (.bool r) ∧ Below w.heap.size w w' := by
 have hu24 := Tryz.underlying24
 have HR0 := As0.mk hr0
 have HC0 := As0.mk hc0
 clear hr0 hc0
 have HB := As0.mk (Below.refl w.heap.size w)
 have H : (l15_pictures.l0 k l0 0) = some r := h
 clear h
 have H' := As0.mk H
 clear H
 go_enter Tryz.func27, Tryz.ntmps27
 go_wp2
 go_loopg [3] k (fun kq v3 w' => ∃ (x3_1 : Int), v3 = .int .i64 x3_1 ∧ As0 (l15_pictures.l0 kq l0 x3_1 = some r) ∧ As0 (kq ≤ k) ∧ As0 (Below w.heap.size w w'))
 case atStart => exact ⟨(0), (by first | rfl | (simp; done) | (simp [*]; done)), H', ⟨Nat.le_refl _⟩, ⟨by repeat (first | (with_reducible first | exact HB.out | apply bwa | apply pwN | apply bwd) | exact HB.out)⟩⟩
 case round =>
  clear H'
  obtain ⟨x3_1, rfl, HA, HK1, HB⟩ := hrel
  cases gk with
  | zero => exact absurd HA.out (by simp [l15_pictures.l0])
  | succ k1 =>
   have H := HA.out
   clear HA
   simp only [l15_pictures.l0] at H
   by_cases c2 : x3_1 < (l0.length : Int)
   ·rw [if_pos c2] at H
    have c2b0 : decide (x3_1 < (l0.length : Int)) = true := decide_eq_true c2
    clear c2
    by_cases c3 : 0 ≤ x3_1
    ·rw [if_pos c3] at H
     have c3b0 : decide (0 ≤ x3_1) = true := decide_eq_true c3
     clear c3
     replace H := Option.bind_eq_some_iff.mp H
     obtain ⟨t489, A40, H⟩ := H
     replace H : (if t489 = true then (l15_pictures.l0 k1 l0 (wrap64 (x3_1 + 1))) else (some false)) = some r := H
     have A4 := As0.mk A40
     clear A40
     by_cases c5 : t489 = true
     ·subst c5
      have H1 : (l15_pictures.l0 k1 l0 (wrap64 (x3_1 + 1))) = some r := by rw [if_pos rfl] at H; exact H
      clear H
      have H := H1
      clear H1
      have H' := As0.mk H
      clear H
      have p488 : 0 ≤ (x3_1 : Int) := of_decide_eq_true (by first | (with_reducible assumption) | assumption)
      have q488 : x3_1 < (l0.length : Int) := of_decide_eq_true (by first | (with_reducible assumption) | assumption)
      obtain ⟨ad488, A488_3, c488_3, e488, hx488_0, hx488_1, hx488_2, hx488_3, hl488_3, hi488_3⟩ := at_T24 HR0.out x3_1 p488 q488
      cases e488
      replace hx488_0 := (HB.out.cell (World.block_lt_of_cell? w _ hx488_0)).trans hx488_0
      replace hx488_1 := (HB.out.cell (World.block_lt_of_cell? w _ hx488_1)).trans hx488_1
      replace hx488_2 := (HB.out.cell (World.block_lt_of_cell? w _ hx488_2)).trans hx488_2
      replace hx488_3 := (HB.out.cell (World.block_lt_of_cell? w _ hx488_3)).trans hx488_3
      have HR488_3 := As0.mk hi488_3
      have HC488_3 := As0.mk hl488_3
      clear hi488_3 hl488_3
      replace p488 := eq_true p488
      replace q488 := eq_true q488
      go_wp2_with (first | ((with_reducible refine gate_callee (f := 12) rfl ?_); refine goesL_ (some 14) rfl rfl Tryz.func12 (by kernel_rfl) rfl #[.agg #[.int .i64 ((rd_T24 l0 x3_1).f0), .int .i64 ((rd_T24 l0 x3_1).f1), .int .i64 ((rd_T24 l0 x3_1).f2), .slice A488_3 ((rd_T24 l0 x3_1).f3).length c488_3]] rfl (by (try simp only [List.map_toArray, List.map_cons, List.map_nil]); first | done | rfl | (simp only [List.length_drop, List.length_take]; rfl)) ?_; (with_reducible refine (l15_plain.calls k1 ((rd_T24 l0 x3_1).f0) ((rd_T24 l0 x3_1).f1) ((rd_T24 l0 x3_1).f2) _ _ ((rd_T24 l0 x3_1).f3) true _ ?side1 ?side2 A4.out).mono ?_); (case side1 => repeat (first | exact (Kd.C_below HR488_3.out HB.out) | (with_reducible refine Kd.C_alloc ?_ _) | (with_reducible refine Kd.C_drewN ?_ _) | (with_reducible refine Kd.C_drew ?_))); (case side2 => exact HC488_3.out); rintro e w6 ⟨rfl, hb⟩; refine ⟨_, rfl, ?_⟩; have n0_ := As0.mk (bwp (by repeat (first | (with_reducible first | exact HB.out | apply bwa | apply pwN | apply bwd) | exact HB.out)) hb); clear HB; have HB := n0_; clear n0_; (try clear hb); (try clear hb2); (try clear hk); (try clear hi)))
      go_roundg k1
      case measure => have := HK1.out; omega
      case rel => exact ⟨(wrap64 (x3_1 + 1)), (by first | rfl | (simp; done) | (simp [*]; done)), H', ⟨by have := HK1.out; omega⟩, ⟨by repeat (first | (with_reducible first | exact HB.out | apply bwa | apply pwN | apply bwd) | exact HB.out)⟩⟩
     ·replace c5 := Bool.eq_false_iff.mpr c5
      subst c5
      have H1 : (some false) = some r := by rw [if_neg (show ¬ (false = true) by decide)] at H; exact H
      clear H
      have H := H1
      clear H1
      obtain rfl := Option.some.inj H
      have p488 : 0 ≤ (x3_1 : Int) := of_decide_eq_true (by first | (with_reducible assumption) | assumption)
      have q488 : x3_1 < (l0.length : Int) := of_decide_eq_true (by first | (with_reducible assumption) | assumption)
      obtain ⟨ad488, A488_3, c488_3, e488, hx488_0, hx488_1, hx488_2, hx488_3, hl488_3, hi488_3⟩ := at_T24 HR0.out x3_1 p488 q488
      cases e488
      replace hx488_0 := (HB.out.cell (World.block_lt_of_cell? w _ hx488_0)).trans hx488_0
      replace hx488_1 := (HB.out.cell (World.block_lt_of_cell? w _ hx488_1)).trans hx488_1
      replace hx488_2 := (HB.out.cell (World.block_lt_of_cell? w _ hx488_2)).trans hx488_2
      replace hx488_3 := (HB.out.cell (World.block_lt_of_cell? w _ hx488_3)).trans hx488_3
      have HR488_3 := As0.mk hi488_3
      have HC488_3 := As0.mk hl488_3
      clear hi488_3 hl488_3
      replace p488 := eq_true p488
      replace q488 := eq_true q488
      go_wp2_with (first | ((with_reducible refine gate_callee (f := 12) rfl ?_); refine goesL_ (some 14) rfl rfl Tryz.func12 (by kernel_rfl) rfl #[.agg #[.int .i64 ((rd_T24 l0 x3_1).f0), .int .i64 ((rd_T24 l0 x3_1).f1), .int .i64 ((rd_T24 l0 x3_1).f2), .slice A488_3 ((rd_T24 l0 x3_1).f3).length c488_3]] rfl (by (try simp only [List.map_toArray, List.map_cons, List.map_nil]); first | done | rfl | (simp only [List.length_drop, List.length_take]; rfl)) ?_; (with_reducible refine (l15_plain.calls k1 ((rd_T24 l0 x3_1).f0) ((rd_T24 l0 x3_1).f1) ((rd_T24 l0 x3_1).f2) _ _ ((rd_T24 l0 x3_1).f3) false _ ?side1 ?side2 A4.out).mono ?_); (case side1 => repeat (first | exact (Kd.C_below HR488_3.out HB.out) | (with_reducible refine Kd.C_alloc ?_ _) | (with_reducible refine Kd.C_drewN ?_ _) | (with_reducible refine Kd.C_drew ?_))); (case side2 => exact HC488_3.out); rintro e w7 ⟨rfl, hb⟩; refine ⟨_, rfl, ?_⟩; have n0_ := As0.mk (bwp (by repeat (first | (with_reducible first | exact HB.out | apply bwa | apply pwN | apply bwd) | exact HB.out)) hb); clear HB; have HB := n0_; clear n0_; (try clear hb); (try clear hb2); (try clear hk); (try clear hi)))
      go_ret
      exact ⟨by first | rfl | (simp [errW_none, errW_some] <;> rfl) | (simp [*, errW_none, errW_some] <;> rfl), by repeat (first | (with_reducible first | exact HB.out | apply bwa | apply pwN | apply bwd) | exact HB.out)⟩
    ·rw [if_neg c3] at H
     exact absurd H (by simp)
   ·rw [if_neg c2] at H
    have c2b0 : decide (x3_1 < (l0.length : Int)) = false := decide_eq_false c2
    clear c2
    obtain rfl := Option.some.inj H
    go_wp2
    go_ret
    exact ⟨by first | rfl | (simp [errW_none, errW_some] <;> rfl) | (simp [*, errW_none, errW_some] <;> rfl), by repeat (first | (with_reducible first | exact HB.out | apply bwa | apply pwN | apply bwd) | exact HB.out)⟩
structure GridGood (l : List S24) (rows cols wide high : Int) : Prop where
 rng : (btw rows 1 8 && btw cols 1 8 && btw wide 1 64 && btw high 1 64 && ((l.length : Int) == wrap64 (rows * cols))) = true
 chk : ∀ x ∈ l, chk24 x = some 0
 alike : l.any (fun x => offB x (rd_T24 l 0)) = false
 fit : fitB rows cols wide high (rd_T24 l 0) = true
theorem offB_not {x y : S24} (h : offB x y = false) : x.f0 = y.f0 ∧ x.f1 = y.f1 ∧ x.f2 = y.f2 ∧ x.f3.length = y.f3.length := by
 unfold offB at h
 simp only [Bool.or_eq_false_iff, Bool.not_eq_false', beq_iff_eq] at h
 exact ⟨h.1, h.2.1, h.2.2.1, by omega⟩
theorem GridGood.tile {l : List S24} {rows cols wide high : Int} (h : GridGood l rows cols wide high) (hl : l.length ≤ 70) (hpos : 0 < l.length) : tileOk l cols wide high = true := by
 have hr := h.rng
 simp only [btw, Bool.and_eq_true, decide_eq_true_eq] at hr
 have h0 : rd_T24 l 0 ∈ l := by
  have h1 := rdT24_at l 0 _ (List.getElem?_eq_getElem hpos)
  have h2 : rd_T24 l 0 = l[0] := h1
  rw [h2]; exact List.getElem_mem hpos
 have hz := check_zero _ _ _ _ (h.chk _ h0)
 unfold tileOk
 simp only [Bool.and_eq_true, decide_eq_true_eq, List.all_eq_true]
 refine ⟨⟨hpos, by omega, by omega, by omega, by omega, by omega, by omega, by omega, by omega, by omega⟩, fun x hx => ?_⟩
 have hzx := check_zero _ _ _ _ (h.chk _ hx)
 have ho : offB x (rd_T24 l 0) = false := by
  have := h.alike
  cases hb : offB x (rd_T24 l 0) with
  | false => rfl
  | true => rw [List.any_eq_false] at this; exact absurd hb (this x hx)
 have hs := offB_not ho
 exact ⟨⟨by omega, by omega, by omega, by omega, hs.2.2.2⟩, fun r hr => hzx.2.2.2.2.2.2.2.2.1 r hr⟩
theorem side_is (a : Int) : item_side.f a = some (btw a 1 64) := by
 unfold item_side.f
 rw [within48_is]
 rfl
theorem grid_is (l : List S24) (rows cols wide high : Int) (hl : Plain24 l) : ∃ r : Int × Int × Int × List (List Int) × Int, (Ev fun k => item_Grid.f k l rows cols wide high = some r) ∧ (Ev fun k => r15_Grid.f k l rows cols wide high = some r) ∧
  (r.2.2.2.1.length ≤ 1000 ∧ ∀ q ∈ r.2.2.2.1, q.length ≤ 10000000) ∧
  (GridGood l rows cols wide high → r = (wide, high, (rd_T24 l 0).f2, tlN wide.toNat high.toNat cols.toNat (rd_T24 l 0).f3.length l l.length, 0)) := by
 have hlen := hl.len
 have bad : ∀ e : Int, ((badG e).2.2.2.1.length ≤ 1000 ∧ ∀ q ∈ (badG e).2.2.2.1, q.length ≤ 10000000) := fun _ => ⟨by simp [badG], fun q hq => by cases hq⟩
 obtain ⟨b, hb⟩ : ∃ b, b = (btw rows 1 8 && btw cols 1 8 && btw wide 1 64 && btw high 1 64 && ((l.length : Int) == wrap64 (rows * cols))) := ⟨_, rfl⟩
 have f1 : ∀ k, item_Grid.f k l rows cols wide high = item_Grid.j0 k l rows cols wide high (!b) := by
  intro k
  unfold item_Grid.f
  rw [within48_is, within48_is, side_is, side_is, hb]
  simp only [Option.bind_some]
  generalize btw rows 1 8 = b1
  generalize btw cols 1 8 = b2
  generalize btw wide 1 64 = b3
  generalize btw high 1 64 = b4
  cases b1 <;> cases b2 <;> cases b3 <;> cases b4 <;> rfl
 have f2 : ∀ k, r15_Grid.f k l rows cols wide high = r15_Grid.j0 k l rows cols wide high (!b) := by
  intro k
  unfold r15_Grid.f
  rw [in15_is, in15_is, in15_is, in15_is, hb]
  simp only [Option.bind_some]
  generalize btw rows 1 8 = b1
  generalize btw cols 1 8 = b2
  generalize btw wide 1 64 = b3
  generalize btw high 1 64 = b4
  cases b1 <;> cases b2 <;> cases b3 <;> cases b4 <;> rfl
 cases hbv : b with
 | false =>
  rw [hbv] at hb f1 f2
  refine ⟨badG 1, Ev.const fun k => ?_, Ev.const fun k => ?_, bad 1, fun h => ?_⟩
  ·rw [f1, item_Grid.j0, if_pos (by decide)]; rfl
  ·rw [f2, r15_Grid.j0, if_pos (by decide)]; rfl
  ·rw [h.rng] at hb; cases hb
 | true =>
  rw [hbv] at hb f1 f2
  have hb' := hb.symm
  simp only [btw, Bool.and_eq_true, decide_eq_true_eq, beq_iff_eq] at hb'
  have hpos : 0 < l.length := by
   have h1 : 1 ≤ rows * cols := by
    have := Int.mul_le_mul hb'.1.1.1.1.1 hb'.1.1.1.2.1 (by omega) (by omega : 0 ≤ rows)
    omega
   have h2 : rows * cols ≤ 8 * 8 := Int.mul_le_mul hb'.1.1.1.1.2 hb'.1.1.1.2.2 (by omega) (by omega)
   have h3 := hb'.2
   rw [w64_id _ (by omega) (by omega)] at h3
   omega
  have hx0 : l[0]? = some (rd_T24 l 0) := by
   have h1 := rdT24_at l 0 _ (List.getElem?_eq_getElem hpos)
   have h2 : rd_T24 l 0 = l[0] := h1
   rw [h2]; exact List.getElem?_eq_getElem hpos
  have g1 : ∀ R, (Ev fun k => item_Grid.l0 k l rows cols wide high [] l (l.length : Int) 0 = R) → Ev fun k => item_Grid.f k l rows cols wide high = R := fun R hR => by
   obtain ⟨K, hK⟩ := hR
   refine ⟨K + 1, fun k hk => ?_⟩
   obtain ⟨k, rfl⟩ : ∃ m, k = m + 1 := ⟨k - 1, by omega⟩
   show item_Grid.f (k + 1) l rows cols wide high = R
   rw [f1, item_Grid.j0, if_neg (by decide)]
   exact hK k (by omega)
  have g2 : ∀ R, (Ev fun k => r15_Grid.l0 k l rows cols wide high [] 0 = R) → Ev fun k => r15_Grid.f k l rows cols wide high = R := fun R hR => by
   obtain ⟨K, hK⟩ := hR
   refine ⟨K + 1, fun k hk => ?_⟩
   obtain ⟨k, rfl⟩ : ∃ m, k = m + 1 := ⟨k - 1, by omega⟩
   show r15_Grid.f (k + 1) l rows cols wide high = R
   rw [f2, r15_Grid.j0, if_neg (by decide)]
   exact hK k (by omega)
  have hG := grid_l0 l rows cols wide high hl l.length 0 (by omega)
  rw [List.take_zero, List.map_nil, List.map_nil, List.drop_zero] at hG
  rcases hG with ⟨e, he, h1, h2⟩ | ⟨hchk, h1, h2⟩
  ·refine ⟨badG e, g1 _ h1, g2 _ h2, bad e, fun h => ?_⟩
   exfalso
   obtain ⟨he0, x, hx, hxe⟩ := he
   rw [h.chk x hx] at hxe
   exact he0 (Option.some.inj hxe).symm
  ·obtain ⟨K1, hK1⟩ := shape_l0 l rows cols wide high hlen _ hx0 l.length 0 (by omega)
   obtain ⟨K2, hK2⟩ := fits_l0 l rows cols wide high hlen _ hx0 l.length 0 (by omega)
   rw [List.drop_zero] at hK1 hK2
   replace hK1 : ∀ k, K1 ≤ k → item_gridShape.f k (l.map sh104) rows cols wide high = _ := hK1
   replace hK2 : ∀ k, K2 ≤ k → r15_gridFits.f k (l.map sh111) rows cols wide high = _ := hK2
   by_cases hgood : l.any (fun x => offB x (rd_T24 l 0)) = false ∧ fitB rows cols wide high (rd_T24 l 0) = true
   ·have hGG : GridGood l rows cols wide high := ⟨hb.symm, hchk, hgood.1, hgood.2⟩
    rw [hgood.1, if_neg (by decide), hgood.2, if_pos rfl] at hK1
    rw [hgood.1, hgood.2] at hK2
    have htile := hGG.tile hlen hpos
    have hsame : ∀ x ∈ l, x.f0 = (rd_T24 l 0).f0 ∧ x.f1 = (rd_T24 l 0).f1 := fun x hx => by
     have ho : offB x (rd_T24 l 0) = false := by
      cases hb2 : offB x (rd_T24 l 0) with
      | false => rfl
      | true => have := hgood.1; rw [List.any_eq_false] at this; exact absurd hb2 (this x hx)
     exact ⟨(offB_not ho).1, (offB_not ho).2.1⟩
    have ok := tlN_ok wide.toNat high.toNat cols.toNat (rd_T24 l 0).f3.length l l.length
    have hte := (tileOk_each htile).1
    have hWH : wide.toNat * high.toNat ≤ 1000 * 1000 := Nat.mul_le_mul (by omega) (by omega)
    refine ⟨(wide, high, (rd_T24 l 0).f2, tlN wide.toNat high.toNat cols.toNat (rd_T24 l 0).f3.length l l.length, 0), g1 _ (h1 _ ⟨K1, fun k hk => ?_⟩), g2 _ (h2 _ ?_), ⟨by show (tlN _ _ _ _ _ _).length ≤ 1000; rw [ok.1]; omega, fun q hq => by have := ok.2 q hq; omega⟩, fun _ => rfl⟩
    ·show tailG l rows cols wide high k = _
     unfold tailG
     rw [hK1 k hk, Option.bind_some, if_pos rfl]
     unfold item_tiled.f
     rw [if_pos htile]
     rfl
    ·have hlaid := laid_is l rows cols wide high hlen htile hsame
     obtain ⟨K3, hK3⟩ := hlaid
     refine ⟨K2 + K3, fun k hk => ?_⟩
     show tailR l rows cols wide high k = _
     unfold tailR
     rw [hK2 k (by omega), Option.bind_some, if_pos (by decide), hK3 k (by omega)]
     rfl
   ·have e1 : (if l.any (fun x => offB x (rd_T24 l 0)) = true then ((0 : Int), (0 : Int), (0 : Int), (0 : Int), (151 : Int)) else if fitB rows cols wide high (rd_T24 l 0) = true then (wide, high, (rd_T24 l 0).f2, ((rd_T24 l 0).f3.length : Int), 0) else (0, 0, 0, 0, 151)) = (0, 0, 0, 0, 151) := by
     cases ho : l.any (fun x => offB x (rd_T24 l 0)) with
     | true => rfl
     | false =>
      cases hf : fitB rows cols wide high (rd_T24 l 0) with
      | false => rfl
      | true => exact absurd ⟨ho, hf⟩ hgood
    have e2 : (!(l.any (fun x => offB x (rd_T24 l 0))) && fitB rows cols wide high (rd_T24 l 0)) = false := by
     cases ho : l.any (fun x => offB x (rd_T24 l 0)) with
     | true => rfl
     | false =>
      cases hf : fitB rows cols wide high (rd_T24 l 0) with
      | false => rfl
      | true => exact absurd ⟨ho, hf⟩ hgood
    rw [e1] at hK1
    rw [e2] at hK2
    refine ⟨badG 151, g1 _ (h1 _ ⟨K1, fun k hk => ?_⟩), g2 _ (h2 _ ⟨K2, fun k hk => ?_⟩), bad 151, fun h => absurd ⟨h.alike, h.fit⟩ hgood⟩
    ·show tailG l rows cols wide high k = _
     unfold tailG
     rw [hK1 k hk, Option.bind_some, if_neg (by decide)]
     rfl
    ·show tailR l rows cols wide high k = _
     unfold tailR
     rw [hK2 k hk, Option.bind_some, if_neg (by decide)]
     rfl
theorem pictures_l0 (l : List S24) (hl : l.length ≤ 9223372036854775807) (hp : ∀ x ∈ l, x.f3.length ≤ 9223372036854775807) : ∀ (n j : Nat), j + n = l.length → ∃ r, (Ev fun k => l15_pictures.l0 k l j = some r) ∧ (r = true → l.length ≤ 70 ∧ ∀ x ∈ l.drop j, x.f3.length ≤ 8 ∧ ∀ q ∈ x.f3, q.length ≤ 5000) := by
 intro n
 induction n with
 | zero =>
  intro j hj
  refine ⟨decide ((l.length : Int) ≤ 70), Ev.const (fun k => ?_), fun h => ⟨by have := of_decide_eq_true h; omega, ?_⟩⟩
  ·rw [l15_pictures.l0, if_neg (by omega)]
  ·rw [List.drop_eq_nil_of_le (by omega)]
   intro x hx
   cases hx
 | succ n ih =>
  intro j hj
  have hjl : j < l.length := by omega
  have hx : l[j]? = some l[j] := List.getElem?_eq_getElem hjl
  have hrd := rdT24_at l j _ hx
  have hm := hp _ (List.getElem_mem hjl)
  rw [drop_at l j _ hx]
  generalize l[j] = x at hrd hm
  have hw : wrap64 ((j : Int) + 1) = ((j + 1 : Nat) : Int) := by unfold wrap64; omega
  obtain ⟨p, h1, h2⟩ := plain_l0 x.f0 x.f1 x.f2 x.f3 hm x.f3.length 0 (by omega)
  rw [List.drop_zero] at h2
  have h1' : Ev fun k => l15_plain.f k x.f0 x.f1 x.f2 x.f3 = some p := h1
  obtain ⟨r, h3, h4⟩ := ih (j + 1) (by omega)
  have hst : ∀ k, l15_pictures.l0 (k + 1) l j = (l15_plain.f k x.f0 x.f1 x.f2 x.f3).bind fun t489 => (if t489 = true then (l15_pictures.l0 k l ((j + 1 : Nat) : Int)) else (some false)) := by
   intro k
   rw [l15_pictures.l0, if_pos (by omega), if_pos (by omega), hrd, hw]
  cases p with
  | false => exact ⟨false, Ev.step hst (Ev.bind h1' ⟨0, fun k _ => rfl⟩), fun h => by cases h⟩
  | true =>
   refine ⟨r, Ev.step hst (Ev.bind h1' (Ev.mono h3 fun k hk => by rw [if_pos rfl]; exact hk)), fun h => ⟨(h4 h).1, fun y hy => ?_⟩⟩
   rcases List.mem_cons.1 hy with rfl | hy
   ·exact h2 rfl
   ·exact (h4 h).2 y hy
def grids_true.T1 : Bool × List (List Nat × List Nat) := (true, [([], []), ([0], [0]), ([], []), ([2], [2]), ([], []), ([4], [4]), ([], []), ([6], [6]), ([], []), ([8], [8]), ([1, 0, 1], [1]), ([3, 10, 0, 1, 2, 3, 10], [3]), ([5, 11, 0, 1, 2, 3, 4, 5, 10, 11], [5]), ([7, 12, 0, 1, 2, 3, 4, 5, 6, 7, 10, 11, 12], [7]), ([9, 13, 0, 1, 2, 3, 4, 5, 6, 7, 8, 9, 10, 11, 12, 13], [9])])
def grids_true.B1 : List Nat := [0, 1, 0, 4, 0, 16, 0, 64, 0, 256, 3, 1039, 3135, 7423, 16383]
theorem grids_true.tab1 : rtab .any (opsOf Tryz.f6 1) = grids_true.T1 := by kernel_rfl
theorem grids_true.bits1 : waitsOk grids_true.T1.2 grids_true.B1 = true := by kernel_rfl
set_option maxHeartbeats 16000000 in
set_option maxRecDepth 100000 in
theorem grids_true.calls (A0 : Option Addr) (c0 : Nat) (l : List S24) (rows cols wide high : Int) (w : World) (hr0 : Kd.C k24 w A0 l.length l) (hc0 : l.length ≤ c0) :
  Calls Tryz.prog 6 #[.agg #[.slice A0 l.length c0, .int .i64 rows, .int .i64 cols, .int .i64 wide, .int .i64 high]] w fun e w' => e = .returned (.bool true) ∧ Below w.heap.size w w' := by
 have hl : l.length ≤ 9223372036854775807 := hr0.2.1
 obtain ⟨p, hp1, hp2⟩ := pictures_l0 l hl (planes_len hr0) l.length 0 (by omega)
 rw [List.drop_zero] at hp2
 obtain ⟨K1, hK1⟩ := hp1
 have hP : l15_pictures.f K1 l = some p := hK1 K1 (Nat.le_refl _)
 have HR := As0.mk hr0
 have HC := As0.mk hc0
 have HP := As0.mk hP
 have HP2 := As0.mk hp2
 clear hr0 hc0 hP hK1 hl hp2
 have hu24 := Tryz.underlying24
 have hu51 := Tryz.underlying51
 go_enter Tryz.func6, Tryz.ntmps6
 go_wp2_with (first | ((with_reducible refine gdt (N := 1) rfl ?_); refine bxe ?hg (N := 1) ?hd (cs := #[.slice A0 l.length c0, .int .i64 rows, .int .i64 cols, .int .i64 wide, .int .i64 high]) (t := 51) ?hr ?_; (case hd => rfl); (case hg => rfl); (case hr => first | (go_simp; done) | (go_simp; rfl)); intro g1 hgg1 w1 hboxg1 hbg1; have BKg1 := As0.mk hboxg1; have HB := As0.mk hbg1; have k0 : w1.cell? ⟨g1, 0, none⟩ = some (.slice A0 l.length c0) := (bkc BKg1.out 0).trans rfl; have k1 : w1.cell? ⟨g1, 1, none⟩ = some (.int .i64 rows) := (bkc BKg1.out 1).trans rfl; have k2 : w1.cell? ⟨g1, 2, none⟩ = some (.int .i64 cols) := (bkc BKg1.out 2).trans rfl; have k3 : w1.cell? ⟨g1, 3, none⟩ = some (.int .i64 wide) := (bkc BKg1.out 3).trans rfl; have k4 : w1.cell? ⟨g1, 4, none⟩ = some (.int .i64 high) := (bkc BKg1.out 4).trans rfl; clear hboxg1 hbg1 hgg1))
 refine start_ (n := 15) (S := fun w' => w'.cell? ⟨g1, 0, none⟩ = some (.slice A0 l.length c0) ∧ w'.cell? ⟨g1, 1, none⟩ = some (.int .i64 rows) ∧ w'.cell? ⟨g1, 2, none⟩ = some (.int .i64 cols) ∧ w'.cell? ⟨g1, 3, none⟩ = some (.int .i64 wide) ∧ w'.cell? ⟨g1, 4, none⟩ = some (.int .i64 high)) (ds := []) #[false, false, false, false, false, false, false, false, false, false, false, false, false, false, false] (by kernel_rfl) rfl rfl ⟨k0, k1, k2, k3, k4⟩ (fun hHeld => ?_); refine with_tabW grids_true.tab1 grids_true.bits1 (fun HT_ HW_ => ?_)
 replace HB := As0.mk (bwd HB.out)
 clear k0 k1 k2 k3 k4
 generalize w1.drew = wd at *
 refine pure_ (i := 0) (N := some 12) (v := ?_) (a' := ?_) #[true, false, false, false, false, false, false, false, false, false, false, false, false, false, false] rfl rfl (any_of HT_.out (by kernel_rfl)) (fun _ _ _ h => h) (Or.inl ⟨by rfl, ?_⟩) ?_ ?_
 rotate_left
 ·intro w'
  go_simp
  with_reducible rfl
 rotate_left
 ·simp only [Act.put, List.setIfInBounds_toArray, List.set_cons_zero, List.set_cons_succ, i64_w, i32_w]
  rfl
 refine pure_ (i := 2) (N := some 14) (v := ?_) (a' := ?_) #[true, false, true, false, false, false, false, false, false, false, false, false, false, false, false] rfl rfl (any_of HT_.out (by kernel_rfl)) (fun _ _ _ h => h) (Or.inl ⟨by rfl, ?_⟩) ?_ ?_
 rotate_left
 ·intro w'
  go_simp
  with_reducible rfl
 rotate_left
 ·simp only [Act.put, List.setIfInBounds_toArray, List.set_cons_zero, List.set_cons_succ, i64_w, i32_w]
  rfl
 refine pure_ (i := 4) (N := some 16) (v := ?_) (a' := ?_) #[true, false, true, false, true, false, false, false, false, false, false, false, false, false, false] rfl rfl (any_of HT_.out (by kernel_rfl)) (fun _ _ _ h => h) (Or.inl ⟨by rfl, ?_⟩) ?_ ?_
 rotate_left
 ·intro w'
  go_simp
  with_reducible rfl
 rotate_left
 ·simp only [Act.put, List.setIfInBounds_toArray, List.set_cons_zero, List.set_cons_succ, i64_w, i32_w]
  rfl
 refine pure_ (i := 6) (N := some 18) (v := ?_) (a' := ?_) #[true, false, true, false, true, false, true, false, false, false, false, false, false, false, false] rfl rfl (any_of HT_.out (by kernel_rfl)) (fun _ _ _ h => h) (Or.inl ⟨by rfl, ?_⟩) ?_ ?_
 rotate_left
 ·intro w'
  go_simp
  with_reducible rfl
 rotate_left
 ·simp only [Act.put, List.setIfInBounds_toArray, List.set_cons_zero, List.set_cons_succ, i64_w, i32_w]
  rfl
 refine pure_ (i := 8) (N := some 20) (v := ?_) (a' := ?_) #[true, false, true, false, true, false, true, false, true, false, false, false, false, false, false] rfl rfl (any_of HT_.out (by kernel_rfl)) (fun _ _ _ h => h) (Or.inl ⟨by rfl, ?_⟩) ?_ ?_
 rotate_left
 ·intro w'
  go_simp
  with_reducible rfl
 rotate_left
 ·simp only [Act.put, List.setIfInBounds_toArray, List.set_cons_zero, List.set_cons_succ, i64_w, i32_w]
  rfl
 refine take_ (i := 1) (N := some 13) (v := ?_) (a' := ?_) #[true, true, true, false, true, false, true, false, true, false, false, false, false, false, false] rfl rfl (take_ofW HT_.out HW_.out (by kernel_rfl)) (fun _ _ _ h => h) (Or.inl ⟨by rfl, ?_⟩) hHeld ?_ ?_
 rotate_left
 ·rintro w' ⟨s0, s1, s2, s3, s4⟩
  go_simp
  with_reducible rfl
 rotate_left
 ·simp only [Act.put, List.setIfInBounds_toArray, List.set_cons_zero, List.set_cons_succ, i64_w, i32_w]
  rfl
 refine pure_ (i := 10) (N := some 3) (v := ?_) (a' := ?_) #[true, true, true, false, true, false, true, false, true, false, true, false, false, false, false] rfl rfl (any_of HT_.out (by kernel_rfl)) (fun _ _ _ h => h) (Or.inl ⟨by rfl, ?_⟩) ?_ ?_
 rotate_left
 ·intro w'
  go_simp
  with_reducible rfl
 rotate_left
 ·simp only [Act.put, List.setIfInBounds_toArray, List.set_cons_zero, List.set_cons_succ, i64_w, i32_w]
  rfl
 refine take_ (i := 3) (N := some 15) (v := ?_) (a' := ?_) #[true, true, true, true, true, false, true, false, true, false, true, false, false, false, false] rfl rfl (take_ofW HT_.out HW_.out (by kernel_rfl)) (fun _ _ _ h => h) (Or.inl ⟨by rfl, ?_⟩) hHeld ?_ ?_
 rotate_left
 ·rintro w' ⟨s0, s1, s2, s3, s4⟩
  go_simp
  with_reducible rfl
 rotate_left
 ·simp only [Act.put, List.setIfInBounds_toArray, List.set_cons_zero, List.set_cons_succ, i64_w, i32_w]
  rfl
 refine pure_ (i := 11) (N := some 4) (v := ?_) (a' := ?_) #[true, true, true, true, true, false, true, false, true, false, true, true, false, false, false] rfl rfl (any_of HT_.out (by kernel_rfl)) (fun _ _ _ h => h) (Or.inl ⟨by rfl, ?_⟩) ?_ ?_
 rotate_left
 ·intro w'
  go_simp
  with_reducible rfl
 rotate_left
 ·simp only [Act.put, List.setIfInBounds_toArray, List.set_cons_zero, List.set_cons_succ, i64_w, i32_w]
  rfl
 refine take_ (i := 5) (N := some 17) (v := ?_) (a' := ?_) #[true, true, true, true, true, true, true, false, true, false, true, true, false, false, false] rfl rfl (take_ofW HT_.out HW_.out (by kernel_rfl)) (fun _ _ _ h => h) (Or.inl ⟨by rfl, ?_⟩) hHeld ?_ ?_
 rotate_left
 ·rintro w' ⟨s0, s1, s2, s3, s4⟩
  go_simp
  with_reducible rfl
 rotate_left
 ·simp only [Act.put, List.setIfInBounds_toArray, List.set_cons_zero, List.set_cons_succ, i64_w, i32_w]
  rfl
 refine pure_ (i := 12) (N := some 5) (v := ?_) (a' := ?_) #[true, true, true, true, true, true, true, false, true, false, true, true, true, false, false] rfl rfl (any_of HT_.out (by kernel_rfl)) (fun _ _ _ h => h) (Or.inl ⟨by rfl, ?_⟩) ?_ ?_
 rotate_left
 ·intro w'
  go_simp
  with_reducible rfl
 rotate_left
 ·simp only [Act.put, List.setIfInBounds_toArray, List.set_cons_zero, List.set_cons_succ, i64_w, i32_w]
  rfl
 refine take_ (i := 7) (N := some 19) (v := ?_) (a' := ?_) #[true, true, true, true, true, true, true, true, true, false, true, true, true, false, false] rfl rfl (take_ofW HT_.out HW_.out (by kernel_rfl)) (fun _ _ _ h => h) (Or.inl ⟨by rfl, ?_⟩) hHeld ?_ ?_
 rotate_left
 ·rintro w' ⟨s0, s1, s2, s3, s4⟩
  go_simp
  with_reducible rfl
 rotate_left
 ·simp only [Act.put, List.setIfInBounds_toArray, List.set_cons_zero, List.set_cons_succ, i64_w, i32_w]
  rfl
 refine pure_ (i := 13) (N := some 6) (v := ?_) (a' := ?_) #[true, true, true, true, true, true, true, true, true, false, true, true, true, true, false] rfl rfl (any_of HT_.out (by kernel_rfl)) (fun _ _ _ h => h) (Or.inl ⟨by rfl, ?_⟩) ?_ ?_
 rotate_left
 ·intro w'
  go_simp
  with_reducible rfl
 rotate_left
 ·simp only [Act.put, List.setIfInBounds_toArray, List.set_cons_zero, List.set_cons_succ, i64_w, i32_w]
  rfl
 refine take_ (i := 9) (N := some 21) (v := ?_) (a' := ?_) #[true, true, true, true, true, true, true, true, true, true, true, true, true, true, false] rfl rfl (take_ofW HT_.out HW_.out (by kernel_rfl)) (fun _ _ _ h => h) (Or.inl ⟨by rfl, ?_⟩) hHeld ?_ ?_
 rotate_left
 ·rintro w' ⟨s0, s1, s2, s3, s4⟩
  go_simp
  with_reducible rfl
 rotate_left
 ·simp only [Act.put, List.setIfInBounds_toArray, List.set_cons_zero, List.set_cons_succ, i64_w, i32_w]
  rfl
 refine pure_ (i := 14) (N := some 7) (v := ?_) (a' := ?_) #[true, true, true, true, true, true, true, true, true, true, true, true, true, true, true] rfl rfl (any_of HT_.out (by kernel_rfl)) (fun _ _ _ h => h) (Or.inl ⟨by rfl, ?_⟩) ?_ ?_
 rotate_left
 ·intro w'
  go_simp
  with_reducible rfl
 rotate_left
 ·simp only [Act.put, List.setIfInBounds_toArray, List.set_cons_zero, List.set_cons_succ, i64_w, i32_w]
  rfl
 refine done_ (done_of HT_.out (by kernel_rfl)) ?_
 cases p with
 | false =>
  clear HP2
  go_wp2_with (first | (go_at_call 27; (with_reducible refine (l15_pictures.calls K1 A0 c0 l false _ ?side1 HC.out HP.out).mono ?_); (case side1 => exact Kd.C_below HR.out HB.out); rintro e w2 ⟨rfl, hb2⟩; replace HB := As0.mk (pwt HB.out hb2); clear hb2))
  go_ret
  exact ⟨rfl, HB.out⟩
 | true =>
  obtain ⟨h70, heach⟩ := HP2.out rfl
  obtain ⟨r, ⟨K2, h2⟩, ⟨K3, h3⟩, ⟨h4, h5⟩, _⟩ := grid_is l rows cols wide high ⟨h70, heach⟩
  obtain ⟨K4, h6⟩ := eq_image r.1 r.2.1 r.2.2.1 r.2.2.2.1 h4 h5
  have HG := As0.mk (h2 K2 (Nat.le_refl _))
  have HRG := As0.mk (h3 K3 (Nat.le_refl _))
  have HEQ := As0.mk (h6 K4 (Nat.le_refl _))
  clear h2 h3 h4 h5 h6 h70 heach HP2
  go_wp2_with (first | (go_at_call 27; (with_reducible refine (l15_pictures.calls K1 A0 c0 l true _ ?side1 HC.out HP.out).mono ?_); (case side1 => exact Kd.C_below HR.out HB.out); rintro e w2 ⟨rfl, hb2⟩; replace HB := As0.mk (pwt HB.out hb2); clear hb2) | (go_at_call 28; (with_reducible refine (item_Grid.calls K2 A0 c0 l rows cols wide high r.1 r.2.1 r.2.2.1 r.2.2.2.1 r.2.2.2.2 _ ?side1 HC.out HG.out).mono ?_); (case side1 => exact Kd.C_below HR.out HB.out); rintro e w3 ⟨v3, rfl, hs3, hb3⟩; obtain ⟨A3, c3, rfl⟩ := Kd.S_slice hs3; have HS3 := As0.mk (Kd.S_lower hs3 HB.out.size); replace HB := As0.mk (pwt HB.out hb3); clear hs3 hb3) | ((with_reducible refine gdt (N := 8) rfl ?_); refine bxe ?hg (N := 8) ?hd (cs := #[.int .i64 0, .int .i64 0, .int .i64 0, .slice none 0 0]) (t := 24) ?hr ?_; (case hd => rfl); (case hg => rfl); (case hr => first | (go_simp; done) | (go_simp; rfl)); intro g8 hgg8 w4 hboxg8 hbg8; have BKg8 := As0.mk hboxg8; have GE8 : As0 (w.heap.size ≤ g8) := ⟨by have := HB.out.size; omega⟩; replace HB := As0.mk (pwt HB.out hbg8); replace HS3 := As0.mk (Kd.S_below HS3.out hbg8); have z0 : w4.cell? ⟨g8, 0, none⟩ = some (.int .i64 0) := (bkc BKg8.out 0).trans rfl; have z1 : w4.cell? ⟨g8, 1, none⟩ = some (.int .i64 0) := (bkc BKg8.out 1).trans rfl; have z2 : w4.cell? ⟨g8, 2, none⟩ = some (.int .i64 0) := (bkc BKg8.out 2).trans rfl; have z3 : w4.cell? ⟨g8, 3, none⟩ = some (.slice none 0 0) := (bkc BKg8.out 3).trans rfl; have fz0 := bkz BKg8.out 0; have fz1 := bkz BKg8.out 1; have fz2 := bkz BKg8.out 2; have fz3 := bkz BKg8.out 3; clear hboxg8 hbg8 hgg8) | (go_at_call 29; (with_reducible refine (r15_Grid.calls K3 A0 c0 l rows cols wide high r.1 r.2.1 r.2.2.1 r.2.2.2.1 r.2.2.2.2 _ ?side1 HC.out HRG.out).mono ?_); (case side1 => exact Kd.C_below HR.out (four_below HB.out GE8.out _ _ _ _)); rintro e w5 ⟨v4, rfl, hs4, hb4⟩; obtain ⟨A4, c4, rfl⟩ := Kd.S_slice hs4; clear z0 z1 z2 z3 fz0 fz1 fz2 fz3; have HS4 := As0.mk (Kd.S_lower hs4 (four_below HB.out GE8.out (.int .i64 r.1) (.int .i64 r.2.1) (.int .i64 r.2.2.1) (.slice A3 r.2.2.2.1.length c3)).size); replace HS3 := As0.mk (Kd.S_below (four_S HS3.out BKg8.out (by decide) (.int .i64 r.1) (.int .i64 r.2.1) (.int .i64 r.2.2.1) (.slice A3 r.2.2.2.1.length c3)) hb4); replace BKg8 := As0.mk (bkb (four_put BKg8.out (.int .i64 r.1) (.int .i64 r.2.1) (.int .i64 r.2.2.1) (.slice A3 r.2.2.2.1.length c3)) hb4); replace HB := As0.mk (pwt (four_below HB.out GE8.out (.int .i64 r.1) (.int .i64 r.2.1) (.int .i64 r.2.2.1) (.slice A3 r.2.2.2.1.length c3)) hb4); clear hs4 hb4; have m0 : w5.cell? ⟨g8, 0, none⟩ = some (.int .i64 r.1) := (bkc BKg8.out 0).trans rfl; have m1 : w5.cell? ⟨g8, 1, none⟩ = some (.int .i64 r.2.1) := (bkc BKg8.out 1).trans rfl; have m2 : w5.cell? ⟨g8, 2, none⟩ = some (.int .i64 r.2.2.1) := (bkc BKg8.out 2).trans rfl; have m3 : w5.cell? ⟨g8, 3, none⟩ = some (.slice A3 r.2.2.2.1.length c3) := (bkc BKg8.out 3).trans rfl) | ((with_reducible refine gdt (N := 10) rfl ?_); refine bxe ?hg (N := 10) ?hd (cs := #[.int .i64 0, .int .i64 0, .int .i64 0, .slice none 0 0]) (t := 24) ?hr ?_; (case hd => rfl); (case hg => rfl); (case hr => first | (go_simp; done) | (go_simp; rfl)); intro g10 hgg10 w6 hboxg10 hbg10; have BKg10 := As0.mk hboxg10; have NE : As0 (g8 ≠ g10) := ⟨by have := blk_lt BKg8.out; omega⟩; have GE10 : As0 (w.heap.size ≤ g10) := ⟨by have := HB.out.size; omega⟩; replace HB := As0.mk (pwt HB.out hbg10); replace HS3 := As0.mk (Kd.S_below HS3.out hbg10); replace HS4 := As0.mk (Kd.S_below HS4.out hbg10); replace BKg8 := As0.mk (bkb BKg8.out hbg10); clear m0 m1 m2 m3; have z0 : w6.cell? ⟨g10, 0, none⟩ = some (.int .i64 0) := (bkc BKg10.out 0).trans rfl; have z1 : w6.cell? ⟨g10, 1, none⟩ = some (.int .i64 0) := (bkc BKg10.out 1).trans rfl; have z2 : w6.cell? ⟨g10, 2, none⟩ = some (.int .i64 0) := (bkc BKg10.out 2).trans rfl; have z3 : w6.cell? ⟨g10, 3, none⟩ = some (.slice none 0 0) := (bkc BKg10.out 3).trans rfl; have fz0 := bkz BKg10.out 0; have fz1 := bkz BKg10.out 1; have fz2 := bkz BKg10.out 2; have fz3 := bkz BKg10.out 3; have m0 : ∀ v0 v1 v2 v3 : Value, ((((w6.setCell ⟨g10, 0, none⟩ v0).setCell ⟨g10, 1, none⟩ v1).setCell ⟨g10, 2, none⟩ v2).setCell ⟨g10, 3, none⟩ v3).cell? ⟨g8, 0, none⟩ = some (.int .i64 r.1) := fun v0 v1 v2 v3 => (bkc (four_far BKg8.out NE.out v0 v1 v2 v3) 0).trans rfl; have m1 : ∀ v0 v1 v2 v3 : Value, ((((w6.setCell ⟨g10, 0, none⟩ v0).setCell ⟨g10, 1, none⟩ v1).setCell ⟨g10, 2, none⟩ v2).setCell ⟨g10, 3, none⟩ v3).cell? ⟨g8, 1, none⟩ = some (.int .i64 r.2.1) := fun v0 v1 v2 v3 => (bkc (four_far BKg8.out NE.out v0 v1 v2 v3) 1).trans rfl; have m2 : ∀ v0 v1 v2 v3 : Value, ((((w6.setCell ⟨g10, 0, none⟩ v0).setCell ⟨g10, 1, none⟩ v1).setCell ⟨g10, 2, none⟩ v2).setCell ⟨g10, 3, none⟩ v3).cell? ⟨g8, 2, none⟩ = some (.int .i64 r.2.2.1) := fun v0 v1 v2 v3 => (bkc (four_far BKg8.out NE.out v0 v1 v2 v3) 2).trans rfl; have m3 : ∀ v0 v1 v2 v3 : Value, ((((w6.setCell ⟨g10, 0, none⟩ v0).setCell ⟨g10, 1, none⟩ v1).setCell ⟨g10, 2, none⟩ v2).setCell ⟨g10, 3, none⟩ v3).cell? ⟨g8, 3, none⟩ = some (.slice A3 r.2.2.2.1.length c3) := fun v0 v1 v2 v3 => (bkc (four_far BKg8.out NE.out v0 v1 v2 v3) 3).trans rfl; clear hboxg10 hbg10 hgg10) | (go_at_call 15; (with_reducible refine (r00_EqImage.calls K4 r.1 r.2.1 r.2.2.1 A3 c3 r.2.2.2.1 r.1 r.2.1 r.2.2.1 A4 c4 r.2.2.2.1 true _ ?side1 ?side2 ?side3 ?side4 HEQ.out).mono ?_); (case side1 => exact (Kd.S_reads' (four_S HS3.out BKg10.out (by decide) _ _ _ _)).2.2); (case side2 => exact (Kd.S_reads' HS3.out).2.1); (case side3 => exact (Kd.S_reads' (four_S HS4.out BKg10.out (by decide) _ _ _ _)).2.2); (case side4 => exact (Kd.S_reads' HS4.out).2.1); rintro e w7 ⟨rfl, hb7⟩; replace HB := As0.mk (pwt (four_below HB.out GE10.out (.int .i64 r.1) (.int .i64 r.2.1) (.int .i64 r.2.2.1) (.slice A4 r.2.2.2.1.length c4)) hb7); clear hb7 z0 z1 z2 z3 fz0 fz1 fz2 fz3 m0 m1 m2 m3) | (go_at_call 16; (with_reducible refine (l15_awake.calls 0 true _ rfl).mono ?_); rintro e w8 ⟨rfl, hb8⟩; replace HB := As0.mk (pwt HB.out hb8); clear hb8))
  go_ret
  exact ⟨rfl, HB.out⟩
end Go.Proofs.YtphkionjjhhhlaaGreat.Q
end
