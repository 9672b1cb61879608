/- Lemmas and walks of this proof (part 3). -/
import Derived.Test.YtphkionjjhhhlaaGreatCChecks2
set_option linter.unusedVariables false
set_option linter.unusedSimpArgs false
section
namespace Go.Proofs.YtphkionjjhhhlaaGreat.Q
open Go.RowKit Go.Proofs.YtphkionjjhhhlaaGreatW.PrintWords Go.Proofs.YtphkionjjhhhlaaGreatW.PrintLast Go.Proofs.YtphkionjjhhhlaaGreatW.PrintMore
mutual
def dioramaref15_ranges.j0 : Nat → Bool → Int → Int → List Int → List Int → List Int → Int → Int → Int → Int → List Int → Int → Bool → Option (Bool)
  | 0, _, _, _, _, _, _, _, _, _, _, _, _, _ => none
  | k + 1, x19, x320000, x320001, x320002, x320003, x320004, x320005, x320006, x320007, x320008, x320009, x320010, x320011 => if x19 = true then (some false) else ((dioramaref15_in.f x320007 1 64).bind fun t323 => (if t323 = true then ((dioramaref15_in.f x320008 1 64).bind fun t324 => (dioramaref15_ranges.j1 k t324 x320000 x320001 x320002 x320003 x320004 x320005 x320006 x320007 x320008 x320009 x320010 x320011)) else (dioramaref15_ranges.j1 k false x320000 x320001 x320002 x320003 x320004 x320005 x320006 x320007 x320008 x320009 x320010 x320011)))
def dioramaref15_ranges.j1 : Nat → Bool → Int → Int → List Int → List Int → List Int → Int → Int → Int → Int → List Int → Int → Bool → Option (Bool)
  | 0, _, _, _, _, _, _, _, _, _, _, _, _, _ => none
  | k + 1, x3, x320000, x320001, x320002, x320003, x320004, x320005, x320006, x320007, x320008, x320009, x320010, x320011 => if x320001 = 1 then (some ((x320003.length : Int) == 1)) else (if x320001 = 2 then (if x3 = true then ((dioramaref15_in.f (x320009.length : Int) 1 4).bind fun t325 => (if t325 = true then ((dioramaref15_all.f k x320009 0 4095).bind fun t326 => (if t326 = true then (if (x320003.length : Int) ≤ 8 then (if (x320004.length : Int) = (wrap64 (2 * (x320003.length : Int))) then ((dioramaref15_all.f k x320004 (-64) 64).bind fun t327 => (some t327)) else (some false)) else (some false)) else (some false))) else (some false))) else (some false)) else (if x320001 = 3 then (if x3 = true then ((dioramaref15_in.f x320005 1 8).bind fun t328 => (if t328 = true then ((dioramaref15_in.f x320006 1 8).bind fun t329 => (if t329 = true then (some ((x320003.length : Int) == (wrap64 (x320005 * x320006)))) else (some false))) else (some false))) else (some false)) else (some true)))
end
def dioramaref15_ranges.f (k : Nat) (a0_0 : Int) (a0_1 : Int) (l0_2 : List Int) (l0_3 : List Int) (l0_4 : List Int) (a0_5 : Int) (a0_6 : Int) (a0_7 : Int) (a0_8 : Int) (l0_9 : List Int) (a0_10 : Int) (a0_11 : Bool) : Option (Bool) := (dioramaref15_in.f a0_0 1 1000).bind fun t320 => (if t320 = true then ((dioramaref15_in.f a0_1 0 3).bind fun t321 => (if t321 = true then ((dioramaref15_in.f a0_10 0 3).bind fun t322 => (dioramaref15_ranges.j0 k (!t322) a0_0 a0_1 l0_2 l0_3 l0_4 a0_5 a0_6 a0_7 a0_8 l0_9 a0_10 a0_11)) else (dioramaref15_ranges.j0 k true a0_0 a0_1 l0_2 l0_3 l0_4 a0_5 a0_6 a0_7 a0_8 l0_9 a0_10 a0_11))) else (dioramaref15_ranges.j0 k true a0_0 a0_1 l0_2 l0_3 l0_4 a0_5 a0_6 a0_7 a0_8 l0_9 a0_10 a0_11))
set_option maxHeartbeats 8000000 in
set_option maxRecDepth 100000 in
theorem dioramaref15_ranges.calls (k : Nat) (a0_0 : Int) (a0_1 : Int) (A0_2 : Option Addr) (c0_2 : Nat) (l0_2 : List Int) (A0_3 : Option Addr) (c0_3 : Nat) (l0_3 : List Int) (A0_4 : Option Addr) (c0_4 : Nat) (l0_4 : List Int) (a0_5 : Int) (a0_6 : Int) (a0_7 : Int) (a0_8 : Int) (A0_9 : Option Addr) (c0_9 : Nat) (l0_9 : List Int) (a0_10 : Int) (a0_11 : Bool) (r : Bool) (w : World) (hr0_2 : Kd.C (Kd.int .u8) w A0_2 l0_2.length l0_2) (hc0_2 : l0_2.length ≤ c0_2) (hr0_3 : Kd.C (Kd.int .i64) w A0_3 l0_3.length l0_3) (hc0_3 : l0_3.length ≤ c0_3) (hr0_4 : Kd.C (Kd.int .i64) w A0_4 l0_4.length l0_4) (hc0_4 : l0_4.length ≤ c0_4) (hr0_9 : Kd.C (Kd.int .i64) w A0_9 l0_9.length l0_9) (hc0_9 : l0_9.length ≤ c0_9) (h : dioramaref15_ranges.f k a0_0 a0_1 l0_2 l0_3 l0_4 a0_5 a0_6 a0_7 a0_8 l0_9 a0_10 a0_11 = some r) :
    Calls Tryz.prog 59 #[.agg #[.int .i64 a0_0, .int .i64 a0_1, .slice A0_2 l0_2.length c0_2, .slice A0_3 l0_3.length c0_3, .slice A0_4 l0_4.length c0_4, .int .i64 a0_5, .int .i64 a0_6, .int .i64 a0_7, .int .i64 a0_8, .slice A0_9 l0_9.length c0_9, .int .i64 a0_10, .bool a0_11]] w fun e w' => e = .returned (.bool r) ∧ Below w.heap.size w w' := by
  have hu68 := Tryz.underlying68
  have HR0_2 := Aside0.mk hr0_2
  have HC0_2 := Aside0.mk hc0_2
  clear hr0_2 hc0_2
  have HR0_3 := Aside0.mk hr0_3
  have HC0_3 := Aside0.mk hc0_3
  clear hr0_3 hc0_3
  have HR0_4 := Aside0.mk hr0_4
  have HC0_4 := Aside0.mk hc0_4
  clear hr0_4 hc0_4
  have HR0_9 := Aside0.mk hr0_9
  have HC0_9 := Aside0.mk hc0_9
  clear hr0_9 hc0_9
  have HB := Aside0.mk (Below.refl w.heap.size w)
  have H : ((dioramaref15_in.f a0_0 1 1000).bind fun t320 => (if t320 = true then ((dioramaref15_in.f a0_1 0 3).bind fun t321 => (if t321 = true then ((dioramaref15_in.f a0_10 0 3).bind fun t322 => (dioramaref15_ranges.j0 k (!t322) a0_0 a0_1 l0_2 l0_3 l0_4 a0_5 a0_6 a0_7 a0_8 l0_9 a0_10 a0_11)) else (dioramaref15_ranges.j0 k true a0_0 a0_1 l0_2 l0_3 l0_4 a0_5 a0_6 a0_7 a0_8 l0_9 a0_10 a0_11))) else (dioramaref15_ranges.j0 k true a0_0 a0_1 l0_2 l0_3 l0_4 a0_5 a0_6 a0_7 a0_8 l0_9 a0_10 a0_11))) = some r := h
  clear h
  have HC2 := Aside0.mk H
  clear H
  go_enter Tryz.func59, Tryz.ntmps59
  go_upto_region 1 with (first | ((with_reducible refine gate_dst (N := 1) rfl ?_); (try (refine gate_guard (by rfl) ?_; dsimp only)); refine box_event ?hg (N := 1) ?hd (cs := #[.int .i64 a0_0, .int .i64 a0_1, .slice A0_2 l0_2.length c0_2, .slice A0_3 l0_3.length c0_3, .slice A0_4 l0_4.length c0_4, .int .i64 a0_5, .int .i64 a0_6, .int .i64 a0_7, .int .i64 a0_8, .slice A0_9 l0_9.length c0_9, .int .i64 a0_10, .bool a0_11]) (t := 68) ?hr ?_; (case hd => rfl); (case hg => rfl); (case hr => first | (go_simp; done) | (go_simp; rfl)); intro gb319 hg w3 hbox hb; have n0_ := Aside0.mk (below_step (by repeat (first | (with_reducible first | exact HB.out | apply below_alloc | apply pw_below_drewN | apply below_drew1) | exact HB.out)) hb); have n1_ := Aside0.mk (hbox); have n2_ := Aside0.mk ((by rw [hg]; exact (below_size (by repeat (first | (with_reducible first | exact HB.out | apply below_alloc | apply pw_below_drewN | apply below_drew1) | exact HB.out))) : w.heap.size ≤ gb319)); have n3_ := Aside0.mk ((by rw [hg]; exact (below_size (by repeat (first | (with_reducible first | exact HB.out | apply below_alloc | apply pw_below_drewN | apply below_drew1) | exact HB.out))) : w.heap.size ≤ gb319)); clear HB; have HB := n0_; have BK319 := n1_; have GW319 := n2_; have GE319 := n3_; clear n0_ n1_ n2_ n3_; clear hb hbox hg))
  (try simp only [Act.put, List.setIfInBounds_toArray, List.set_cons_zero, List.set_cons_succ])
  go_cut [19] (fun v19 wc => ∃ (kq : Nat) (x19_1 : Bool), v19 = .bool x19_1 ∧ Aside0 (dioramaref15_ranges.j0 kq x19_1 a0_0 a0_1 l0_2 l0_3 l0_4 a0_5 a0_6 a0_7 a0_8 l0_9 a0_10 a0_11 = some r) ∧ Aside0 (kq ≤ k) ∧ Aside0 (wc.heap[gb319]? = some (.cells #[.int .i64 a0_0, .int .i64 a0_1, (.slice A0_2 l0_2.length c0_2), (.slice A0_3 l0_3.length c0_3), (.slice A0_4 l0_4.length c0_4), .int .i64 a0_5, .int .i64 a0_6, .int .i64 a0_7, .int .i64 a0_8, (.slice A0_9 l0_9.length c0_9), .int .i64 a0_10, .bool a0_11] 68 (0, 0))) ∧ Aside0 (Below w.heap.size w wc))
  case first =>
    have H := HC2.out
    clear HC2
    replace H := Option.bind_eq_some_iff.mp H
    obtain ⟨t320, A40, H⟩ := H
    replace H : (if t320 = true then ((dioramaref15_in.f a0_1 0 3).bind fun t321 => (if t321 = true then ((dioramaref15_in.f a0_10 0 3).bind fun t322 => (dioramaref15_ranges.j0 k (!t322) a0_0 a0_1 l0_2 l0_3 l0_4 a0_5 a0_6 a0_7 a0_8 l0_9 a0_10 a0_11)) else (dioramaref15_ranges.j0 k true a0_0 a0_1 l0_2 l0_3 l0_4 a0_5 a0_6 a0_7 a0_8 l0_9 a0_10 a0_11))) else (dioramaref15_ranges.j0 k true a0_0 a0_1 l0_2 l0_3 l0_4 a0_5 a0_6 a0_7 a0_8 l0_9 a0_10 a0_11)) = some r := H
    have A4 := Aside0.mk A40
    clear A40
    by_cases c5 : t320 = true
    · subst c5
      have H1 : ((dioramaref15_in.f a0_1 0 3).bind fun t321 => (if t321 = true then ((dioramaref15_in.f a0_10 0 3).bind fun t322 => (dioramaref15_ranges.j0 k (!t322) a0_0 a0_1 l0_2 l0_3 l0_4 a0_5 a0_6 a0_7 a0_8 l0_9 a0_10 a0_11)) else (dioramaref15_ranges.j0 k true a0_0 a0_1 l0_2 l0_3 l0_4 a0_5 a0_6 a0_7 a0_8 l0_9 a0_10 a0_11))) = some r := by rw [if_pos rfl] at H; exact H
      clear H
      have H := H1
      clear H1
      replace H := Option.bind_eq_some_iff.mp H
      obtain ⟨t321, A60, H⟩ := H
      replace H : (if t321 = true then ((dioramaref15_in.f a0_10 0 3).bind fun t322 => (dioramaref15_ranges.j0 k (!t322) a0_0 a0_1 l0_2 l0_3 l0_4 a0_5 a0_6 a0_7 a0_8 l0_9 a0_10 a0_11)) else (dioramaref15_ranges.j0 k true a0_0 a0_1 l0_2 l0_3 l0_4 a0_5 a0_6 a0_7 a0_8 l0_9 a0_10 a0_11)) = some r := H
      have A6 := Aside0.mk A60
      clear A60
      by_cases c7 : t321 = true
      · subst c7
        have H1 : ((dioramaref15_in.f a0_10 0 3).bind fun t322 => (dioramaref15_ranges.j0 k (!t322) a0_0 a0_1 l0_2 l0_3 l0_4 a0_5 a0_6 a0_7 a0_8 l0_9 a0_10 a0_11)) = some r := by rw [if_pos rfl] at H; exact H
        clear H
        have H := H1
        clear H1
        replace H := Option.bind_eq_some_iff.mp H
        obtain ⟨t322, A80, H⟩ := H
        replace H : (dioramaref15_ranges.j0 k (!t322) a0_0 a0_1 l0_2 l0_3 l0_4 a0_5 a0_6 a0_7 a0_8 l0_9 a0_10 a0_11) = some r := H
        have A8 := Aside0.mk A80
        clear A80
        have H' := Aside0.mk H
        clear H
        have hcz9_0 : w3.cell? ⟨gb319, 0, none⟩ = some (.int .i64 a0_0) := (blk_cell BK319.out 0).trans rfl
        have hcz9_1 : w3.cell? ⟨gb319, 1, none⟩ = some (.int .i64 a0_1) := (blk_cell BK319.out 1).trans rfl
        have hcz9_2 : w3.cell? ⟨gb319, 2, none⟩ = some (.slice A0_2 l0_2.length c0_2) := (blk_cell BK319.out 2).trans rfl
        have hcz9_3 : w3.cell? ⟨gb319, 3, none⟩ = some (.slice A0_3 l0_3.length c0_3) := (blk_cell BK319.out 3).trans rfl
        have hcz9_4 : w3.cell? ⟨gb319, 4, none⟩ = some (.slice A0_4 l0_4.length c0_4) := (blk_cell BK319.out 4).trans rfl
        have hcz9_5 : w3.cell? ⟨gb319, 5, none⟩ = some (.int .i64 a0_5) := (blk_cell BK319.out 5).trans rfl
        have hcz9_6 : w3.cell? ⟨gb319, 6, none⟩ = some (.int .i64 a0_6) := (blk_cell BK319.out 6).trans rfl
        have hcz9_7 : w3.cell? ⟨gb319, 7, none⟩ = some (.int .i64 a0_7) := (blk_cell BK319.out 7).trans rfl
        have hcz9_8 : w3.cell? ⟨gb319, 8, none⟩ = some (.int .i64 a0_8) := (blk_cell BK319.out 8).trans rfl
        have hcz9_9 : w3.cell? ⟨gb319, 9, none⟩ = some (.slice A0_9 l0_9.length c0_9) := (blk_cell BK319.out 9).trans rfl
        have hcz9_10 : w3.cell? ⟨gb319, 10, none⟩ = some (.int .i64 a0_10) := (blk_cell BK319.out 10).trans rfl
        have hcz9_11 : w3.cell? ⟨gb319, 11, none⟩ = some (.bool a0_11) := (blk_cell BK319.out 11).trans rfl
        have hfz9_0 := blk_frozen BK319.out 0
        have hfz9_1 := blk_frozen BK319.out 1
        have hfz9_2 := blk_frozen BK319.out 2
        have hfz9_3 := blk_frozen BK319.out 3
        have hfz9_4 := blk_frozen BK319.out 4
        have hfz9_5 := blk_frozen BK319.out 5
        have hfz9_6 := blk_frozen BK319.out 6
        have hfz9_7 := blk_frozen BK319.out 7
        have hfz9_8 := blk_frozen BK319.out 8
        have hfz9_9 := blk_frozen BK319.out 9
        have hfz9_10 := blk_frozen BK319.out 10
        have hfz9_11 := blk_frozen BK319.out 11
        go_wp2_with (first | ((with_reducible refine gate_callee (f := 50) rfl ?_); refine goesL_ (some 6) rfl rfl Tryz.func50 (by kernel_rfl) rfl #[.int .i64 a0_0, .int .i64 1, .int .i64 1000] rfl (by (try simp only [List.map_toArray, List.map_cons, List.map_nil]); first | done | rfl | (simp only [List.length_drop, List.length_take]; rfl)) ?_; (with_reducible refine (dioramaref15_in.calls a0_0 1 1000 true _ A4.out).mono ?_); rintro e w' ⟨rfl, ⟨nd, rfl⟩⟩; refine ⟨_, rfl, ?_⟩) | (go_at_call 50; (with_reducible refine (dioramaref15_in.calls a0_1 0 3 true _ A6.out).mono ?_); rintro e w' ⟨rfl, ⟨nd, rfl⟩⟩) | (go_at_call 50; (with_reducible refine (dioramaref15_in.calls a0_10 0 3 t322 _ A8.out).mono ?_); rintro e w' ⟨rfl, ⟨nd, rfl⟩⟩))
        go_meet
        case rel => exact ⟨_, (!t322), (by first | rfl | (simp; done) | (simp [*]; done)), H', ⟨by first | omega | exact Nat.le_refl _⟩, ⟨by (with_reducible repeat (first | refine blk_drewN ?_ _ | refine blk_drew ?_ | refine blk_alloc ?_ _)); exact BK319.out⟩, ⟨by repeat (first | (with_reducible first | exact HB.out | apply below_alloc | apply pw_below_drewN | apply below_drew1 | refine below_set ?_ GE319.out) | exact HB.out)⟩⟩
      · replace c7 := Bool.eq_false_iff.mpr c7
        subst c7
        have H1 : (dioramaref15_ranges.j0 k true a0_0 a0_1 l0_2 l0_3 l0_4 a0_5 a0_6 a0_7 a0_8 l0_9 a0_10 a0_11) = some r := by rw [if_neg (show ¬ (false = true) by decide)] at H; exact H
        clear H
        have H := H1
        clear H1
        have H' := Aside0.mk H
        clear H
        have hcz10_0 : w3.cell? ⟨gb319, 0, none⟩ = some (.int .i64 a0_0) := (blk_cell BK319.out 0).trans rfl
        have hcz10_1 : w3.cell? ⟨gb319, 1, none⟩ = some (.int .i64 a0_1) := (blk_cell BK319.out 1).trans rfl
        have hcz10_2 : w3.cell? ⟨gb319, 2, none⟩ = some (.slice A0_2 l0_2.length c0_2) := (blk_cell BK319.out 2).trans rfl
        have hcz10_3 : w3.cell? ⟨gb319, 3, none⟩ = some (.slice A0_3 l0_3.length c0_3) := (blk_cell BK319.out 3).trans rfl
        have hcz10_4 : w3.cell? ⟨gb319, 4, none⟩ = some (.slice A0_4 l0_4.length c0_4) := (blk_cell BK319.out 4).trans rfl
        have hcz10_5 : w3.cell? ⟨gb319, 5, none⟩ = some (.int .i64 a0_5) := (blk_cell BK319.out 5).trans rfl
        have hcz10_6 : w3.cell? ⟨gb319, 6, none⟩ = some (.int .i64 a0_6) := (blk_cell BK319.out 6).trans rfl
        have hcz10_7 : w3.cell? ⟨gb319, 7, none⟩ = some (.int .i64 a0_7) := (blk_cell BK319.out 7).trans rfl
        have hcz10_8 : w3.cell? ⟨gb319, 8, none⟩ = some (.int .i64 a0_8) := (blk_cell BK319.out 8).trans rfl
        have hcz10_9 : w3.cell? ⟨gb319, 9, none⟩ = some (.slice A0_9 l0_9.length c0_9) := (blk_cell BK319.out 9).trans rfl
        have hcz10_10 : w3.cell? ⟨gb319, 10, none⟩ = some (.int .i64 a0_10) := (blk_cell BK319.out 10).trans rfl
        have hcz10_11 : w3.cell? ⟨gb319, 11, none⟩ = some (.bool a0_11) := (blk_cell BK319.out 11).trans rfl
        have hfz10_0 := blk_frozen BK319.out 0
        have hfz10_1 := blk_frozen BK319.out 1
        have hfz10_2 := blk_frozen BK319.out 2
        have hfz10_3 := blk_frozen BK319.out 3
        have hfz10_4 := blk_frozen BK319.out 4
        have hfz10_5 := blk_frozen BK319.out 5
        have hfz10_6 := blk_frozen BK319.out 6
        have hfz10_7 := blk_frozen BK319.out 7
        have hfz10_8 := blk_frozen BK319.out 8
        have hfz10_9 := blk_frozen BK319.out 9
        have hfz10_10 := blk_frozen BK319.out 10
        have hfz10_11 := blk_frozen BK319.out 11
        go_wp2_with (first | ((with_reducible refine gate_callee (f := 50) rfl ?_); refine goesL_ (some 6) rfl rfl Tryz.func50 (by kernel_rfl) rfl #[.int .i64 a0_0, .int .i64 1, .int .i64 1000] rfl (by (try simp only [List.map_toArray, List.map_cons, List.map_nil]); first | done | rfl | (simp only [List.length_drop, List.length_take]; rfl)) ?_; (with_reducible refine (dioramaref15_in.calls a0_0 1 1000 true _ A4.out).mono ?_); rintro e w' ⟨rfl, ⟨nd, rfl⟩⟩; refine ⟨_, rfl, ?_⟩) | (go_at_call 50; (with_reducible refine (dioramaref15_in.calls a0_1 0 3 false _ A6.out).mono ?_); rintro e w' ⟨rfl, ⟨nd, rfl⟩⟩))
        go_meet
        case rel => exact ⟨_, (true), (by first | rfl | (simp; done) | (simp [*]; done)), H', ⟨by first | omega | exact Nat.le_refl _⟩, ⟨by (with_reducible repeat (first | refine blk_drewN ?_ _ | refine blk_drew ?_ | refine blk_alloc ?_ _)); exact BK319.out⟩, ⟨by repeat (first | (with_reducible first | exact HB.out | apply below_alloc | apply pw_below_drewN | apply below_drew1 | refine below_set ?_ GE319.out) | exact HB.out)⟩⟩
    · replace c5 := Bool.eq_false_iff.mpr c5
      subst c5
      have H1 : (dioramaref15_ranges.j0 k true a0_0 a0_1 l0_2 l0_3 l0_4 a0_5 a0_6 a0_7 a0_8 l0_9 a0_10 a0_11) = some r := by rw [if_neg (show ¬ (false = true) by decide)] at H; exact H
      clear H
      have H := H1
      clear H1
      have H' := Aside0.mk H
      clear H
      have hcz11_0 : w3.cell? ⟨gb319, 0, none⟩ = some (.int .i64 a0_0) := (blk_cell BK319.out 0).trans rfl
      have hcz11_1 : w3.cell? ⟨gb319, 1, none⟩ = some (.int .i64 a0_1) := (blk_cell BK319.out 1).trans rfl
      have hcz11_2 : w3.cell? ⟨gb319, 2, none⟩ = some (.slice A0_2 l0_2.length c0_2) := (blk_cell BK319.out 2).trans rfl
      have hcz11_3 : w3.cell? ⟨gb319, 3, none⟩ = some (.slice A0_3 l0_3.length c0_3) := (blk_cell BK319.out 3).trans rfl
      have hcz11_4 : w3.cell? ⟨gb319, 4, none⟩ = some (.slice A0_4 l0_4.length c0_4) := (blk_cell BK319.out 4).trans rfl
      have hcz11_5 : w3.cell? ⟨gb319, 5, none⟩ = some (.int .i64 a0_5) := (blk_cell BK319.out 5).trans rfl
      have hcz11_6 : w3.cell? ⟨gb319, 6, none⟩ = some (.int .i64 a0_6) := (blk_cell BK319.out 6).trans rfl
      have hcz11_7 : w3.cell? ⟨gb319, 7, none⟩ = some (.int .i64 a0_7) := (blk_cell BK319.out 7).trans rfl
      have hcz11_8 : w3.cell? ⟨gb319, 8, none⟩ = some (.int .i64 a0_8) := (blk_cell BK319.out 8).trans rfl
      have hcz11_9 : w3.cell? ⟨gb319, 9, none⟩ = some (.slice A0_9 l0_9.length c0_9) := (blk_cell BK319.out 9).trans rfl
      have hcz11_10 : w3.cell? ⟨gb319, 10, none⟩ = some (.int .i64 a0_10) := (blk_cell BK319.out 10).trans rfl
      have hcz11_11 : w3.cell? ⟨gb319, 11, none⟩ = some (.bool a0_11) := (blk_cell BK319.out 11).trans rfl
      have hfz11_0 := blk_frozen BK319.out 0
      have hfz11_1 := blk_frozen BK319.out 1
      have hfz11_2 := blk_frozen BK319.out 2
      have hfz11_3 := blk_frozen BK319.out 3
      have hfz11_4 := blk_frozen BK319.out 4
      have hfz11_5 := blk_frozen BK319.out 5
      have hfz11_6 := blk_frozen BK319.out 6
      have hfz11_7 := blk_frozen BK319.out 7
      have hfz11_8 := blk_frozen BK319.out 8
      have hfz11_9 := blk_frozen BK319.out 9
      have hfz11_10 := blk_frozen BK319.out 10
      have hfz11_11 := blk_frozen BK319.out 11
      go_wp2_with (first | ((with_reducible refine gate_callee (f := 50) rfl ?_); refine goesL_ (some 6) rfl rfl Tryz.func50 (by kernel_rfl) rfl #[.int .i64 a0_0, .int .i64 1, .int .i64 1000] rfl (by (try simp only [List.map_toArray, List.map_cons, List.map_nil]); first | done | rfl | (simp only [List.length_drop, List.length_take]; rfl)) ?_; (with_reducible refine (dioramaref15_in.calls a0_0 1 1000 false _ A4.out).mono ?_); rintro e w' ⟨rfl, ⟨nd, rfl⟩⟩; refine ⟨_, rfl, ?_⟩))
      go_meet
      case rel => exact ⟨_, (true), (by first | rfl | (simp; done) | (simp [*]; done)), H', ⟨by first | omega | exact Nat.le_refl _⟩, ⟨by (with_reducible repeat (first | refine blk_drewN ?_ _ | refine blk_drew ?_ | refine blk_alloc ?_ _)); exact BK319.out⟩, ⟨by repeat (first | (with_reducible first | exact HB.out | apply below_alloc | apply pw_below_drewN | apply below_drew1 | refine below_set ?_ GE319.out) | exact HB.out)⟩⟩
  case rest =>
    clear HC2
    try clear p2
    try clear c5
    try clear c7
    try clear hcz10_0
    try clear hcz10_1
    try clear hcz10_10
    try clear hcz10_11
    try clear hcz10_2
    try clear hcz10_3
    try clear hcz10_4
    try clear hcz10_5
    try clear hcz10_6
    try clear hcz10_7
    try clear hcz10_8
    try clear hcz10_9
    try clear hcz11_0
    try clear hcz11_1
    try clear hcz11_10
    try clear hcz11_11
    try clear hcz11_2
    try clear hcz11_3
    try clear hcz11_4
    try clear hcz11_5
    try clear hcz11_6
    try clear hcz11_7
    try clear hcz11_8
    try clear hcz11_9
    try clear hcz9_0
    try clear hcz9_1
    try clear hcz9_10
    try clear hcz9_11
    try clear hcz9_2
    try clear hcz9_3
    try clear hcz9_4
    try clear hcz9_5
    try clear hcz9_6
    try clear hcz9_7
    try clear hcz9_8
    try clear hcz9_9
    try clear hfz10_0
    try clear hfz10_1
    try clear hfz10_10
    try clear hfz10_11
    try clear hfz10_2
    try clear hfz10_3
    try clear hfz10_4
    try clear hfz10_5
    try clear hfz10_6
    try clear hfz10_7
    try clear hfz10_8
    try clear hfz10_9
    try clear hfz11_0
    try clear hfz11_1
    try clear hfz11_10
    try clear hfz11_11
    try clear hfz11_2
    try clear hfz11_3
    try clear hfz11_4
    try clear hfz11_5
    try clear hfz11_6
    try clear hfz11_7
    try clear hfz11_8
    try clear hfz11_9
    try clear hfz9_0
    try clear hfz9_1
    try clear hfz9_10
    try clear hfz9_11
    try clear hfz9_2
    try clear hfz9_3
    try clear hfz9_4
    try clear hfz9_5
    try clear hfz9_6
    try clear hfz9_7
    try clear hfz9_8
    try clear hfz9_9
    obtain ⟨kq, x19_1, rfl, HA, HJ1, BK319, HB⟩ := hcut
    cases kq with
    | zero => exact absurd HA.out (by simp [dioramaref15_ranges.j0])
    | succ kj1 =>
      have H := HA.out
      clear HA
      simp only [dioramaref15_ranges.j0] at H
      by_cases c12 : x19_1 = true
      · subst c12
        have H1 : (some false) = some r := by rw [if_pos rfl] at H; exact H
        clear H
        have H := H1
        clear H1
        obtain rfl := Option.some.inj H
        go_wp2
        go_ret
        exact ⟨by first | rfl | (simp [errW_none, errW_some] <;> rfl) | (simp [*, errW_none, errW_some] <;> rfl), by repeat (first | (with_reducible first | exact HB.out | apply below_alloc | apply pw_below_drewN | apply below_drew1 | refine below_set ?_ GE319.out) | exact HB.out)⟩
      · replace c12 := Bool.eq_false_iff.mpr c12
        subst c12
        have H1 : ((dioramaref15_in.f a0_7 1 64).bind fun t323 => (if t323 = true then ((dioramaref15_in.f a0_8 1 64).bind fun t324 => (dioramaref15_ranges.j1 kj1 t324 a0_0 a0_1 l0_2 l0_3 l0_4 a0_5 a0_6 a0_7 a0_8 l0_9 a0_10 a0_11)) else (dioramaref15_ranges.j1 kj1 false a0_0 a0_1 l0_2 l0_3 l0_4 a0_5 a0_6 a0_7 a0_8 l0_9 a0_10 a0_11))) = some r := by rw [if_neg (show ¬ (false = true) by decide)] at H; exact H
        clear H
        have H := H1
        clear H1
        have HC13 := Aside0.mk H
        clear H
        go_upto_region 3 with (fail)
        go_cut [3] (fun v3 wc => ∃ (kq : Nat) (x3_12 : Bool), v3 = .bool x3_12 ∧ Aside0 (dioramaref15_ranges.j1 kq x3_12 a0_0 a0_1 l0_2 l0_3 l0_4 a0_5 a0_6 a0_7 a0_8 l0_9 a0_10 a0_11 = some r) ∧ Aside0 (kq ≤ kj1) ∧ Aside0 (wc.heap[gb319]? = some (.cells #[.int .i64 a0_0, .int .i64 a0_1, (.slice A0_2 l0_2.length c0_2), (.slice A0_3 l0_3.length c0_3), (.slice A0_4 l0_4.length c0_4), .int .i64 a0_5, .int .i64 a0_6, .int .i64 a0_7, .int .i64 a0_8, (.slice A0_9 l0_9.length c0_9), .int .i64 a0_10, .bool a0_11] 68 (0, 0))) ∧ Aside0 (Below w.heap.size w wc))
        case first =>
          have H := HC13.out
          clear HC13
          replace H := Option.bind_eq_some_iff.mp H
          obtain ⟨t323, A140, H⟩ := H
          replace H : (if t323 = true then ((dioramaref15_in.f a0_8 1 64).bind fun t324 => (dioramaref15_ranges.j1 kj1 t324 a0_0 a0_1 l0_2 l0_3 l0_4 a0_5 a0_6 a0_7 a0_8 l0_9 a0_10 a0_11)) else (dioramaref15_ranges.j1 kj1 false a0_0 a0_1 l0_2 l0_3 l0_4 a0_5 a0_6 a0_7 a0_8 l0_9 a0_10 a0_11)) = some r := H
          have A14 := Aside0.mk A140
          clear A140
          by_cases c15 : t323 = true
          · subst c15
            have H1 : ((dioramaref15_in.f a0_8 1 64).bind fun t324 => (dioramaref15_ranges.j1 kj1 t324 a0_0 a0_1 l0_2 l0_3 l0_4 a0_5 a0_6 a0_7 a0_8 l0_9 a0_10 a0_11)) = some r := by rw [if_pos rfl] at H; exact H
            clear H
            have H := H1
            clear H1
            replace H := Option.bind_eq_some_iff.mp H
            obtain ⟨t324, A160, H⟩ := H
            replace H : (dioramaref15_ranges.j1 kj1 t324 a0_0 a0_1 l0_2 l0_3 l0_4 a0_5 a0_6 a0_7 a0_8 l0_9 a0_10 a0_11) = some r := H
            have A16 := Aside0.mk A160
            clear A160
            have H' := Aside0.mk H
            clear H
            have hcz17_0 : wc.cell? ⟨gb319, 0, none⟩ = some (.int .i64 a0_0) := (blk_cell BK319.out 0).trans rfl
            have hcz17_1 : wc.cell? ⟨gb319, 1, none⟩ = some (.int .i64 a0_1) := (blk_cell BK319.out 1).trans rfl
            have hcz17_2 : wc.cell? ⟨gb319, 2, none⟩ = some (.slice A0_2 l0_2.length c0_2) := (blk_cell BK319.out 2).trans rfl
            have hcz17_3 : wc.cell? ⟨gb319, 3, none⟩ = some (.slice A0_3 l0_3.length c0_3) := (blk_cell BK319.out 3).trans rfl
            have hcz17_4 : wc.cell? ⟨gb319, 4, none⟩ = some (.slice A0_4 l0_4.length c0_4) := (blk_cell BK319.out 4).trans rfl
            have hcz17_5 : wc.cell? ⟨gb319, 5, none⟩ = some (.int .i64 a0_5) := (blk_cell BK319.out 5).trans rfl
            have hcz17_6 : wc.cell? ⟨gb319, 6, none⟩ = some (.int .i64 a0_6) := (blk_cell BK319.out 6).trans rfl
            have hcz17_7 : wc.cell? ⟨gb319, 7, none⟩ = some (.int .i64 a0_7) := (blk_cell BK319.out 7).trans rfl
            have hcz17_8 : wc.cell? ⟨gb319, 8, none⟩ = some (.int .i64 a0_8) := (blk_cell BK319.out 8).trans rfl
            have hcz17_9 : wc.cell? ⟨gb319, 9, none⟩ = some (.slice A0_9 l0_9.length c0_9) := (blk_cell BK319.out 9).trans rfl
            have hcz17_10 : wc.cell? ⟨gb319, 10, none⟩ = some (.int .i64 a0_10) := (blk_cell BK319.out 10).trans rfl
            have hcz17_11 : wc.cell? ⟨gb319, 11, none⟩ = some (.bool a0_11) := (blk_cell BK319.out 11).trans rfl
            have hfz17_0 := blk_frozen BK319.out 0
            have hfz17_1 := blk_frozen BK319.out 1
            have hfz17_2 := blk_frozen BK319.out 2
            have hfz17_3 := blk_frozen BK319.out 3
            have hfz17_4 := blk_frozen BK319.out 4
            have hfz17_5 := blk_frozen BK319.out 5
            have hfz17_6 := blk_frozen BK319.out 6
            have hfz17_7 := blk_frozen BK319.out 7
            have hfz17_8 := blk_frozen BK319.out 8
            have hfz17_9 := blk_frozen BK319.out 9
            have hfz17_10 := blk_frozen BK319.out 10
            have hfz17_11 := blk_frozen BK319.out 11
            go_wp2_with (first | ((with_reducible refine gate_callee (f := 50) rfl ?_); refine goesL_ (some 22) rfl rfl Tryz.func50 (by kernel_rfl) rfl #[.int .i64 a0_7, .int .i64 1, .int .i64 64] rfl (by (try simp only [List.map_toArray, List.map_cons, List.map_nil]); first | done | rfl | (simp only [List.length_drop, List.length_take]; rfl)) ?_; (with_reducible refine (dioramaref15_in.calls a0_7 1 64 true _ A14.out).mono ?_); rintro e w' ⟨rfl, ⟨nd, rfl⟩⟩; refine ⟨_, rfl, ?_⟩) | (go_at_call 50; (with_reducible refine (dioramaref15_in.calls a0_8 1 64 t324 _ A16.out).mono ?_); rintro e w' ⟨rfl, ⟨nd, rfl⟩⟩))
            go_meet
            case rel => exact ⟨_, (t324), (by first | rfl | (simp; done) | (simp [*]; done)), H', ⟨by have := HJ1.out; first | omega | exact Nat.le_refl _⟩, ⟨by (with_reducible repeat (first | refine blk_drewN ?_ _ | refine blk_drew ?_ | refine blk_alloc ?_ _)); exact BK319.out⟩, ⟨by repeat (first | (with_reducible first | exact HB.out | apply below_alloc | apply pw_below_drewN | apply below_drew1 | refine below_set ?_ GE319.out) | exact HB.out)⟩⟩
          · replace c15 := Bool.eq_false_iff.mpr c15
            subst c15
            have H1 : (dioramaref15_ranges.j1 kj1 false a0_0 a0_1 l0_2 l0_3 l0_4 a0_5 a0_6 a0_7 a0_8 l0_9 a0_10 a0_11) = some r := by rw [if_neg (show ¬ (false = true) by decide)] at H; exact H
            clear H
            have H := H1
            clear H1
            have H' := Aside0.mk H
            clear H
            have hcz18_0 : wc.cell? ⟨gb319, 0, none⟩ = some (.int .i64 a0_0) := (blk_cell BK319.out 0).trans rfl
            have hcz18_1 : wc.cell? ⟨gb319, 1, none⟩ = some (.int .i64 a0_1) := (blk_cell BK319.out 1).trans rfl
            have hcz18_2 : wc.cell? ⟨gb319, 2, none⟩ = some (.slice A0_2 l0_2.length c0_2) := (blk_cell BK319.out 2).trans rfl
            have hcz18_3 : wc.cell? ⟨gb319, 3, none⟩ = some (.slice A0_3 l0_3.length c0_3) := (blk_cell BK319.out 3).trans rfl
            have hcz18_4 : wc.cell? ⟨gb319, 4, none⟩ = some (.slice A0_4 l0_4.length c0_4) := (blk_cell BK319.out 4).trans rfl
            have hcz18_5 : wc.cell? ⟨gb319, 5, none⟩ = some (.int .i64 a0_5) := (blk_cell BK319.out 5).trans rfl
            have hcz18_6 : wc.cell? ⟨gb319, 6, none⟩ = some (.int .i64 a0_6) := (blk_cell BK319.out 6).trans rfl
            have hcz18_7 : wc.cell? ⟨gb319, 7, none⟩ = some (.int .i64 a0_7) := (blk_cell BK319.out 7).trans rfl
            have hcz18_8 : wc.cell? ⟨gb319, 8, none⟩ = some (.int .i64 a0_8) := (blk_cell BK319.out 8).trans rfl
            have hcz18_9 : wc.cell? ⟨gb319, 9, none⟩ = some (.slice A0_9 l0_9.length c0_9) := (blk_cell BK319.out 9).trans rfl
            have hcz18_10 : wc.cell? ⟨gb319, 10, none⟩ = some (.int .i64 a0_10) := (blk_cell BK319.out 10).trans rfl
            have hcz18_11 : wc.cell? ⟨gb319, 11, none⟩ = some (.bool a0_11) := (blk_cell BK319.out 11).trans rfl
            have hfz18_0 := blk_frozen BK319.out 0
            have hfz18_1 := blk_frozen BK319.out 1
            have hfz18_2 := blk_frozen BK319.out 2
            have hfz18_3 := blk_frozen BK319.out 3
            have hfz18_4 := blk_frozen BK319.out 4
            have hfz18_5 := blk_frozen BK319.out 5
            have hfz18_6 := blk_frozen BK319.out 6
            have hfz18_7 := blk_frozen BK319.out 7
            have hfz18_8 := blk_frozen BK319.out 8
            have hfz18_9 := blk_frozen BK319.out 9
            have hfz18_10 := blk_frozen BK319.out 10
            have hfz18_11 := blk_frozen BK319.out 11
            go_wp2_with (first | ((with_reducible refine gate_callee (f := 50) rfl ?_); refine goesL_ (some 22) rfl rfl Tryz.func50 (by kernel_rfl) rfl #[.int .i64 a0_7, .int .i64 1, .int .i64 64] rfl (by (try simp only [List.map_toArray, List.map_cons, List.map_nil]); first | done | rfl | (simp only [List.length_drop, List.length_take]; rfl)) ?_; (with_reducible refine (dioramaref15_in.calls a0_7 1 64 false _ A14.out).mono ?_); rintro e w' ⟨rfl, ⟨nd, rfl⟩⟩; refine ⟨_, rfl, ?_⟩))
            go_meet
            case rel => exact ⟨_, (false), (by first | rfl | (simp; done) | (simp [*]; done)), H', ⟨by have := HJ1.out; first | omega | exact Nat.le_refl _⟩, ⟨by (with_reducible repeat (first | refine blk_drewN ?_ _ | refine blk_drew ?_ | refine blk_alloc ?_ _)); exact BK319.out⟩, ⟨by repeat (first | (with_reducible first | exact HB.out | apply below_alloc | apply pw_below_drewN | apply below_drew1 | refine below_set ?_ GE319.out) | exact HB.out)⟩⟩
        case rest =>
          clear HC13
          try clear c1
          try clear p2
          try clear c5
          try clear c7
          try clear c12
          try clear c15
          try clear hcz10_0
          try clear hcz10_1
          try clear hcz10_10
          try clear hcz10_11
          try clear hcz10_2
          try clear hcz10_3
          try clear hcz10_4
          try clear hcz10_5
          try clear hcz10_6
          try clear hcz10_7
          try clear hcz10_8
          try clear hcz10_9
          try clear hcz11_0
          try clear hcz11_1
          try clear hcz11_10
          try clear hcz11_11
          try clear hcz11_2
          try clear hcz11_3
          try clear hcz11_4
          try clear hcz11_5
          try clear hcz11_6
          try clear hcz11_7
          try clear hcz11_8
          try clear hcz11_9
          try clear hcz17_0
          try clear hcz17_1
          try clear hcz17_10
          try clear hcz17_11
          try clear hcz17_2
          try clear hcz17_3
          try clear hcz17_4
          try clear hcz17_5
          try clear hcz17_6
          try clear hcz17_7
          try clear hcz17_8
          try clear hcz17_9
          try clear hcz18_0
          try clear hcz18_1
          try clear hcz18_10
          try clear hcz18_11
          try clear hcz18_2
          try clear hcz18_3
          try clear hcz18_4
          try clear hcz18_5
          try clear hcz18_6
          try clear hcz18_7
          try clear hcz18_8
          try clear hcz18_9
          try clear hcz9_0
          try clear hcz9_1
          try clear hcz9_10
          try clear hcz9_11
          try clear hcz9_2
          try clear hcz9_3
          try clear hcz9_4
          try clear hcz9_5
          try clear hcz9_6
          try clear hcz9_7
          try clear hcz9_8
          try clear hcz9_9
          try clear hfz10_0
          try clear hfz10_1
          try clear hfz10_10
          try clear hfz10_11
          try clear hfz10_2
          try clear hfz10_3
          try clear hfz10_4
          try clear hfz10_5
          try clear hfz10_6
          try clear hfz10_7
          try clear hfz10_8
          try clear hfz10_9
          try clear hfz11_0
          try clear hfz11_1
          try clear hfz11_10
          try clear hfz11_11
          try clear hfz11_2
          try clear hfz11_3
          try clear hfz11_4
          try clear hfz11_5
          try clear hfz11_6
          try clear hfz11_7
          try clear hfz11_8
          try clear hfz11_9
          try clear hfz17_0
          try clear hfz17_1
          try clear hfz17_10
          try clear hfz17_11
          try clear hfz17_2
          try clear hfz17_3
          try clear hfz17_4
          try clear hfz17_5
          try clear hfz17_6
          try clear hfz17_7
          try clear hfz17_8
          try clear hfz17_9
          try clear hfz18_0
          try clear hfz18_1
          try clear hfz18_10
          try clear hfz18_11
          try clear hfz18_2
          try clear hfz18_3
          try clear hfz18_4
          try clear hfz18_5
          try clear hfz18_6
          try clear hfz18_7
          try clear hfz18_8
          try clear hfz18_9
          try clear hfz9_0
          try clear hfz9_1
          try clear hfz9_10
          try clear hfz9_11
          try clear hfz9_2
          try clear hfz9_3
          try clear hfz9_4
          try clear hfz9_5
          try clear hfz9_6
          try clear hfz9_7
          try clear hfz9_8
          try clear hfz9_9
          try clear p2
          obtain ⟨kq, x3_12, rfl, HA, HJ12, BK319, HB⟩ := hcut
          cases kq with
          | zero => exact absurd HA.out (by simp [dioramaref15_ranges.j1])
          | succ kj12 =>
            have H := HA.out
            clear HA
            simp only [dioramaref15_ranges.j1] at H
            by_cases c19 : a0_1 = 1
            · rw [if_pos c19] at H
              have c19b0 : (a0_1 == 1) = true := beq_iff_eq.mpr c19
              have c19b1 : (a0_1 != 1) = false := bne_eq_false_iff_eq.mpr c19
              clear c19
              obtain rfl := Option.some.inj H
              have hcz20_0 : wc.cell? ⟨gb319, 0, none⟩ = some (.int .i64 a0_0) := (blk_cell BK319.out 0).trans rfl
              have hcz20_1 : wc.cell? ⟨gb319, 1, none⟩ = some (.int .i64 a0_1) := (blk_cell BK319.out 1).trans rfl
              have hcz20_2 : wc.cell? ⟨gb319, 2, none⟩ = some (.slice A0_2 l0_2.length c0_2) := (blk_cell BK319.out 2).trans rfl
              have hcz20_3 : wc.cell? ⟨gb319, 3, none⟩ = some (.slice A0_3 l0_3.length c0_3) := (blk_cell BK319.out 3).trans rfl
              have hcz20_4 : wc.cell? ⟨gb319, 4, none⟩ = some (.slice A0_4 l0_4.length c0_4) := (blk_cell BK319.out 4).trans rfl
              have hcz20_5 : wc.cell? ⟨gb319, 5, none⟩ = some (.int .i64 a0_5) := (blk_cell BK319.out 5).trans rfl
              have hcz20_6 : wc.cell? ⟨gb319, 6, none⟩ = some (.int .i64 a0_6) := (blk_cell BK319.out 6).trans rfl
              have hcz20_7 : wc.cell? ⟨gb319, 7, none⟩ = some (.int .i64 a0_7) := (blk_cell BK319.out 7).trans rfl
              have hcz20_8 : wc.cell? ⟨gb319, 8, none⟩ = some (.int .i64 a0_8) := (blk_cell BK319.out 8).trans rfl
              have hcz20_9 : wc.cell? ⟨gb319, 9, none⟩ = some (.slice A0_9 l0_9.length c0_9) := (blk_cell BK319.out 9).trans rfl
              have hcz20_10 : wc.cell? ⟨gb319, 10, none⟩ = some (.int .i64 a0_10) := (blk_cell BK319.out 10).trans rfl
              have hcz20_11 : wc.cell? ⟨gb319, 11, none⟩ = some (.bool a0_11) := (blk_cell BK319.out 11).trans rfl
              have hfz20_0 := blk_frozen BK319.out 0
              have hfz20_1 := blk_frozen BK319.out 1
              have hfz20_2 := blk_frozen BK319.out 2
              have hfz20_3 := blk_frozen BK319.out 3
              have hfz20_4 := blk_frozen BK319.out 4
              have hfz20_5 := blk_frozen BK319.out 5
              have hfz20_6 := blk_frozen BK319.out 6
              have hfz20_7 := blk_frozen BK319.out 7
              have hfz20_8 := blk_frozen BK319.out 8
              have hfz20_9 := blk_frozen BK319.out 9
              have hfz20_10 := blk_frozen BK319.out 10
              have hfz20_11 := blk_frozen BK319.out 11
              go_wp2
              go_ret
              exact ⟨by first | rfl | (simp [errW_none, errW_some] <;> rfl) | (simp [*, errW_none, errW_some] <;> rfl), by repeat (first | (with_reducible first | exact HB.out | apply below_alloc | apply pw_below_drewN | apply below_drew1 | refine below_set ?_ GE319.out) | exact HB.out)⟩
            · rw [if_neg c19] at H
              have c19b0 : (a0_1 == 1) = false := beq_eq_false_iff_ne.mpr c19
              have c19b1 : (a0_1 != 1) = true := bne_iff_ne.mpr c19
              by_cases c21 : a0_1 = 2
              · rw [if_pos c21] at H
                have c21b0 : (a0_1 == 2) = true := beq_iff_eq.mpr c21
                have c21b1 : (a0_1 != 2) = false := bne_eq_false_iff_eq.mpr c21
                clear c21
                by_cases c22 : x3_12 = true
                · subst c22
                  have H1 : ((dioramaref15_in.f (l0_9.length : Int) 1 4).bind fun t325 => (if t325 = true then ((dioramaref15_all.f kj12 l0_9 0 4095).bind fun t326 => (if t326 = true then (if (l0_3.length : Int) ≤ 8 then (if (l0_4.length : Int) = (wrap64 (2 * (l0_3.length : Int))) then ((dioramaref15_all.f kj12 l0_4 (-64) 64).bind fun t327 => (some t327)) else (some false)) else (some false)) else (some false))) else (some false))) = some r := by rw [if_pos rfl] at H; exact H
                  clear H
                  have H := H1
                  clear H1
                  replace H := Option.bind_eq_some_iff.mp H
                  obtain ⟨t325, A230, H⟩ := H
                  replace H : (if t325 = true then ((dioramaref15_all.f kj12 l0_9 0 4095).bind fun t326 => (if t326 = true then (if (l0_3.length : Int) ≤ 8 then (if (l0_4.length : Int) = (wrap64 (2 * (l0_3.length : Int))) then ((dioramaref15_all.f kj12 l0_4 (-64) 64).bind fun t327 => (some t327)) else (some false)) else (some false)) else (some false))) else (some false)) = some r := H
                  have A23 := Aside0.mk A230
                  clear A230
                  by_cases c24 : t325 = true
                  · subst c24
                    have H1 : ((dioramaref15_all.f kj12 l0_9 0 4095).bind fun t326 => (if t326 = true then (if (l0_3.length : Int) ≤ 8 then (if (l0_4.length : Int) = (wrap64 (2 * (l0_3.length : Int))) then ((dioramaref15_all.f kj12 l0_4 (-64) 64).bind fun t327 => (some t327)) else (some false)) else (some false)) else (some false))) = some r := by rw [if_pos rfl] at H; exact H
                    clear H
                    have H := H1
                    clear H1
                    replace H := Option.bind_eq_some_iff.mp H
                    obtain ⟨t326, A250, H⟩ := H
                    replace H : (if t326 = true then (if (l0_3.length : Int) ≤ 8 then (if (l0_4.length : Int) = (wrap64 (2 * (l0_3.length : Int))) then ((dioramaref15_all.f kj12 l0_4 (-64) 64).bind fun t327 => (some t327)) else (some false)) else (some false)) else (some false)) = some r := H
                    have A25 := Aside0.mk A250
                    clear A250
                    by_cases c26 : t326 = true
                    · subst c26
                      have H1 : (if (l0_3.length : Int) ≤ 8 then (if (l0_4.length : Int) = (wrap64 (2 * (l0_3.length : Int))) then ((dioramaref15_all.f kj12 l0_4 (-64) 64).bind fun t327 => (some t327)) else (some false)) else (some false)) = some r := by rw [if_pos rfl] at H; exact H
                      clear H
                      have H := H1
                      clear H1
                      by_cases c27 : (l0_3.length : Int) ≤ 8
                      · rw [if_pos c27] at H
                        have c27b0 : decide ((l0_3.length : Int) ≤ 8) = true := decide_eq_true c27
                        have c27b1 : decide (l0_3.length ≤ 8) = true := decide_eq_true (by omega)
                        clear c27
                        by_cases c28 : (l0_4.length : Int) = (wrap64 (2 * (l0_3.length : Int)))
                        · rw [if_pos c28] at H
                          have c28b0 : ((l0_4.length : Int) == (wrap64 (2 * (l0_3.length : Int)))) = true := beq_iff_eq.mpr c28
                          have c28b1 : ((l0_4.length : Int) != (wrap64 (2 * (l0_3.length : Int)))) = false := bne_eq_false_iff_eq.mpr c28
                          clear c28
                          replace H := Option.bind_eq_some_iff.mp H
                          obtain ⟨t327, A290, H⟩ := H
                          replace H : (some t327) = some r := H
                          have A29 := Aside0.mk A290
                          clear A290
                          obtain rfl := Option.some.inj H
                          have hcz30_0 : wc.cell? ⟨gb319, 0, none⟩ = some (.int .i64 a0_0) := (blk_cell BK319.out 0).trans rfl
                          have hcz30_1 : wc.cell? ⟨gb319, 1, none⟩ = some (.int .i64 a0_1) := (blk_cell BK319.out 1).trans rfl
                          have hcz30_2 : wc.cell? ⟨gb319, 2, none⟩ = some (.slice A0_2 l0_2.length c0_2) := (blk_cell BK319.out 2).trans rfl
                          have hcz30_3 : wc.cell? ⟨gb319, 3, none⟩ = some (.slice A0_3 l0_3.length c0_3) := (blk_cell BK319.out 3).trans rfl
                          have hcz30_4 : wc.cell? ⟨gb319, 4, none⟩ = some (.slice A0_4 l0_4.length c0_4) := (blk_cell BK319.out 4).trans rfl
                          have hcz30_5 : wc.cell? ⟨gb319, 5, none⟩ = some (.int .i64 a0_5) := (blk_cell BK319.out 5).trans rfl
                          have hcz30_6 : wc.cell? ⟨gb319, 6, none⟩ = some (.int .i64 a0_6) := (blk_cell BK319.out 6).trans rfl
                          have hcz30_7 : wc.cell? ⟨gb319, 7, none⟩ = some (.int .i64 a0_7) := (blk_cell BK319.out 7).trans rfl
                          have hcz30_8 : wc.cell? ⟨gb319, 8, none⟩ = some (.int .i64 a0_8) := (blk_cell BK319.out 8).trans rfl
                          have hcz30_9 : wc.cell? ⟨gb319, 9, none⟩ = some (.slice A0_9 l0_9.length c0_9) := (blk_cell BK319.out 9).trans rfl
                          have hcz30_10 : wc.cell? ⟨gb319, 10, none⟩ = some (.int .i64 a0_10) := (blk_cell BK319.out 10).trans rfl
                          have hcz30_11 : wc.cell? ⟨gb319, 11, none⟩ = some (.bool a0_11) := (blk_cell BK319.out 11).trans rfl
                          have hfz30_0 := blk_frozen BK319.out 0
                          have hfz30_1 := blk_frozen BK319.out 1
                          have hfz30_2 := blk_frozen BK319.out 2
                          have hfz30_3 := blk_frozen BK319.out 3
                          have hfz30_4 := blk_frozen BK319.out 4
                          have hfz30_5 := blk_frozen BK319.out 5
                          have hfz30_6 := blk_frozen BK319.out 6
                          have hfz30_7 := blk_frozen BK319.out 7
                          have hfz30_8 := blk_frozen BK319.out 8
                          have hfz30_9 := blk_frozen BK319.out 9
                          have hfz30_10 := blk_frozen BK319.out 10
                          have hfz30_11 := blk_frozen BK319.out 11
                          go_wp2_with (first | (go_at_call 50; (with_reducible refine (dioramaref15_in.calls (l0_9.length : Int) 1 4 true _ A23.out).mono ?_); rintro e w' ⟨rfl, ⟨nd, rfl⟩⟩) | (go_at_call 115; (with_reducible refine (dioramaref15_all.calls kj12 _ _ l0_9 0 4095 true _ ?side1 ?side2 A25.out).mono ?_); (case side1 => repeat (first | exact (Kd.C_below HR0_9.out (by repeat (first | (with_reducible first | exact HB.out | apply below_alloc | apply pw_below_drewN | apply below_drew1 | refine below_set ?_ GE319.out) | exact HB.out))) | (with_reducible refine Kd.C_alloc ?_ _) | (with_reducible refine Kd.C_drewN ?_ _) | (with_reducible refine Kd.C_drew ?_))); (case side2 => exact HC0_9.out); rintro e w' ⟨rfl, ⟨nd, rfl⟩⟩) | (go_at_call 115; (with_reducible refine (dioramaref15_all.calls kj12 _ _ l0_4 (-64) 64 t327 _ ?side1 ?side2 A29.out).mono ?_); (case side1 => repeat (first | exact (Kd.C_below HR0_4.out (by repeat (first | (with_reducible first | exact HB.out | apply below_alloc | apply pw_below_drewN | apply below_drew1 | refine below_set ?_ GE319.out) | exact HB.out))) | (with_reducible refine Kd.C_alloc ?_ _) | (with_reducible refine Kd.C_drewN ?_ _) | (with_reducible refine Kd.C_drew ?_))); (case side2 => exact HC0_4.out); rintro e w' ⟨rfl, ⟨nd, rfl⟩⟩))
                          go_ret
                          exact ⟨by first | rfl | (simp [errW_none, errW_some] <;> rfl) | (simp [*, errW_none, errW_some] <;> rfl), by repeat (first | (with_reducible first | exact HB.out | apply below_alloc | apply pw_below_drewN | apply below_drew1 | refine below_set ?_ GE319.out) | exact HB.out)⟩
                        · rw [if_neg c28] at H
                          have c28b0 : ((l0_4.length : Int) == (wrap64 (2 * (l0_3.length : Int)))) = false := beq_eq_false_iff_ne.mpr c28
                          have c28b1 : ((l0_4.length : Int) != (wrap64 (2 * (l0_3.length : Int)))) = true := bne_iff_ne.mpr c28
                          obtain rfl := Option.some.inj H
                          have hcz31_0 : wc.cell? ⟨gb319, 0, none⟩ = some (.int .i64 a0_0) := (blk_cell BK319.out 0).trans rfl
                          have hcz31_1 : wc.cell? ⟨gb319, 1, none⟩ = some (.int .i64 a0_1) := (blk_cell BK319.out 1).trans rfl
                          have hcz31_2 : wc.cell? ⟨gb319, 2, none⟩ = some (.slice A0_2 l0_2.length c0_2) := (blk_cell BK319.out 2).trans rfl
                          have hcz31_3 : wc.cell? ⟨gb319, 3, none⟩ = some (.slice A0_3 l0_3.length c0_3) := (blk_cell BK319.out 3).trans rfl
                          have hcz31_4 : wc.cell? ⟨gb319, 4, none⟩ = some (.slice A0_4 l0_4.length c0_4) := (blk_cell BK319.out 4).trans rfl
                          have hcz31_5 : wc.cell? ⟨gb319, 5, none⟩ = some (.int .i64 a0_5) := (blk_cell BK319.out 5).trans rfl
                          have hcz31_6 : wc.cell? ⟨gb319, 6, none⟩ = some (.int .i64 a0_6) := (blk_cell BK319.out 6).trans rfl
                          have hcz31_7 : wc.cell? ⟨gb319, 7, none⟩ = some (.int .i64 a0_7) := (blk_cell BK319.out 7).trans rfl
                          have hcz31_8 : wc.cell? ⟨gb319, 8, none⟩ = some (.int .i64 a0_8) := (blk_cell BK319.out 8).trans rfl
                          have hcz31_9 : wc.cell? ⟨gb319, 9, none⟩ = some (.slice A0_9 l0_9.length c0_9) := (blk_cell BK319.out 9).trans rfl
                          have hcz31_10 : wc.cell? ⟨gb319, 10, none⟩ = some (.int .i64 a0_10) := (blk_cell BK319.out 10).trans rfl
                          have hcz31_11 : wc.cell? ⟨gb319, 11, none⟩ = some (.bool a0_11) := (blk_cell BK319.out 11).trans rfl
                          have hfz31_0 := blk_frozen BK319.out 0
                          have hfz31_1 := blk_frozen BK319.out 1
                          have hfz31_2 := blk_frozen BK319.out 2
                          have hfz31_3 := blk_frozen BK319.out 3
                          have hfz31_4 := blk_frozen BK319.out 4
                          have hfz31_5 := blk_frozen BK319.out 5
                          have hfz31_6 := blk_frozen BK319.out 6
                          have hfz31_7 := blk_frozen BK319.out 7
                          have hfz31_8 := blk_frozen BK319.out 8
                          have hfz31_9 := blk_frozen BK319.out 9
                          have hfz31_10 := blk_frozen BK319.out 10
                          have hfz31_11 := blk_frozen BK319.out 11
                          go_wp2_with (first | (go_at_call 50; (with_reducible refine (dioramaref15_in.calls (l0_9.length : Int) 1 4 true _ A23.out).mono ?_); rintro e w' ⟨rfl, ⟨nd, rfl⟩⟩) | (go_at_call 115; (with_reducible refine (dioramaref15_all.calls kj12 _ _ l0_9 0 4095 true _ ?side1 ?side2 A25.out).mono ?_); (case side1 => repeat (first | exact (Kd.C_below HR0_9.out (by repeat (first | (with_reducible first | exact HB.out | apply below_alloc | apply pw_below_drewN | apply below_drew1 | refine below_set ?_ GE319.out) | exact HB.out))) | (with_reducible refine Kd.C_alloc ?_ _) | (with_reducible refine Kd.C_drewN ?_ _) | (with_reducible refine Kd.C_drew ?_))); (case side2 => exact HC0_9.out); rintro e w' ⟨rfl, ⟨nd, rfl⟩⟩))
                          go_ret
                          exact ⟨by first | rfl | (simp [errW_none, errW_some] <;> rfl) | (simp [*, errW_none, errW_some] <;> rfl), by repeat (first | (with_reducible first | exact HB.out | apply below_alloc | apply pw_below_drewN | apply below_drew1 | refine below_set ?_ GE319.out) | exact HB.out)⟩
                      · rw [if_neg c27] at H
                        have c27b0 : decide ((l0_3.length : Int) ≤ 8) = false := decide_eq_false c27
                        have c27b1 : decide (l0_3.length ≤ 8) = false := decide_eq_false (by omega)
                        clear c27
                        obtain rfl := Option.some.inj H
                        have hcz32_0 : wc.cell? ⟨gb319, 0, none⟩ = some (.int .i64 a0_0) := (blk_cell BK319.out 0).trans rfl
                        have hcz32_1 : wc.cell? ⟨gb319, 1, none⟩ = some (.int .i64 a0_1) := (blk_cell BK319.out 1).trans rfl
                        have hcz32_2 : wc.cell? ⟨gb319, 2, none⟩ = some (.slice A0_2 l0_2.length c0_2) := (blk_cell BK319.out 2).trans rfl
                        have hcz32_3 : wc.cell? ⟨gb319, 3, none⟩ = some (.slice A0_3 l0_3.length c0_3) := (blk_cell BK319.out 3).trans rfl
                        have hcz32_4 : wc.cell? ⟨gb319, 4, none⟩ = some (.slice A0_4 l0_4.length c0_4) := (blk_cell BK319.out 4).trans rfl
                        have hcz32_5 : wc.cell? ⟨gb319, 5, none⟩ = some (.int .i64 a0_5) := (blk_cell BK319.out 5).trans rfl
                        have hcz32_6 : wc.cell? ⟨gb319, 6, none⟩ = some (.int .i64 a0_6) := (blk_cell BK319.out 6).trans rfl
                        have hcz32_7 : wc.cell? ⟨gb319, 7, none⟩ = some (.int .i64 a0_7) := (blk_cell BK319.out 7).trans rfl
                        have hcz32_8 : wc.cell? ⟨gb319, 8, none⟩ = some (.int .i64 a0_8) := (blk_cell BK319.out 8).trans rfl
                        have hcz32_9 : wc.cell? ⟨gb319, 9, none⟩ = some (.slice A0_9 l0_9.length c0_9) := (blk_cell BK319.out 9).trans rfl
                        have hcz32_10 : wc.cell? ⟨gb319, 10, none⟩ = some (.int .i64 a0_10) := (blk_cell BK319.out 10).trans rfl
                        have hcz32_11 : wc.cell? ⟨gb319, 11, none⟩ = some (.bool a0_11) := (blk_cell BK319.out 11).trans rfl
                        have hfz32_0 := blk_frozen BK319.out 0
                        have hfz32_1 := blk_frozen BK319.out 1
                        have hfz32_2 := blk_frozen BK319.out 2
                        have hfz32_3 := blk_frozen BK319.out 3
                        have hfz32_4 := blk_frozen BK319.out 4
                        have hfz32_5 := blk_frozen BK319.out 5
                        have hfz32_6 := blk_frozen BK319.out 6
                        have hfz32_7 := blk_frozen BK319.out 7
                        have hfz32_8 := blk_frozen BK319.out 8
                        have hfz32_9 := blk_frozen BK319.out 9
                        have hfz32_10 := blk_frozen BK319.out 10
                        have hfz32_11 := blk_frozen BK319.out 11
                        go_wp2_with (first | (go_at_call 50; (with_reducible refine (dioramaref15_in.calls (l0_9.length : Int) 1 4 true _ A23.out).mono ?_); rintro e w' ⟨rfl, ⟨nd, rfl⟩⟩) | (go_at_call 115; (with_reducible refine (dioramaref15_all.calls kj12 _ _ l0_9 0 4095 true _ ?side1 ?side2 A25.out).mono ?_); (case side1 => repeat (first | exact (Kd.C_below HR0_9.out (by repeat (first | (with_reducible first | exact HB.out | apply below_alloc | apply pw_below_drewN | apply below_drew1 | refine below_set ?_ GE319.out) | exact HB.out))) | (with_reducible refine Kd.C_alloc ?_ _) | (with_reducible refine Kd.C_drewN ?_ _) | (with_reducible refine Kd.C_drew ?_))); (case side2 => exact HC0_9.out); rintro e w' ⟨rfl, ⟨nd, rfl⟩⟩))
                        go_ret
                        exact ⟨by first | rfl | (simp [errW_none, errW_some] <;> rfl) | (simp [*, errW_none, errW_some] <;> rfl), by repeat (first | (with_reducible first | exact HB.out | apply below_alloc | apply pw_below_drewN | apply below_drew1 | refine below_set ?_ GE319.out) | exact HB.out)⟩
                    · replace c26 := Bool.eq_false_iff.mpr c26
                      subst c26
                      have H1 : (some false) = some r := by rw [if_neg (show ¬ (false = true) by decide)] at H; exact H
                      clear H
                      have H := H1
                      clear H1
                      obtain rfl := Option.some.inj H
                      have hcz33_0 : wc.cell? ⟨gb319, 0, none⟩ = some (.int .i64 a0_0) := (blk_cell BK319.out 0).trans rfl
                      have hcz33_1 : wc.cell? ⟨gb319, 1, none⟩ = some (.int .i64 a0_1) := (blk_cell BK319.out 1).trans rfl
                      have hcz33_2 : wc.cell? ⟨gb319, 2, none⟩ = some (.slice A0_2 l0_2.length c0_2) := (blk_cell BK319.out 2).trans rfl
                      have hcz33_3 : wc.cell? ⟨gb319, 3, none⟩ = some (.slice A0_3 l0_3.length c0_3) := (blk_cell BK319.out 3).trans rfl
                      have hcz33_4 : wc.cell? ⟨gb319, 4, none⟩ = some (.slice A0_4 l0_4.length c0_4) := (blk_cell BK319.out 4).trans rfl
                      have hcz33_5 : wc.cell? ⟨gb319, 5, none⟩ = some (.int .i64 a0_5) := (blk_cell BK319.out 5).trans rfl
                      have hcz33_6 : wc.cell? ⟨gb319, 6, none⟩ = some (.int .i64 a0_6) := (blk_cell BK319.out 6).trans rfl
                      have hcz33_7 : wc.cell? ⟨gb319, 7, none⟩ = some (.int .i64 a0_7) := (blk_cell BK319.out 7).trans rfl
                      have hcz33_8 : wc.cell? ⟨gb319, 8, none⟩ = some (.int .i64 a0_8) := (blk_cell BK319.out 8).trans rfl
                      have hcz33_9 : wc.cell? ⟨gb319, 9, none⟩ = some (.slice A0_9 l0_9.length c0_9) := (blk_cell BK319.out 9).trans rfl
                      have hcz33_10 : wc.cell? ⟨gb319, 10, none⟩ = some (.int .i64 a0_10) := (blk_cell BK319.out 10).trans rfl
                      have hcz33_11 : wc.cell? ⟨gb319, 11, none⟩ = some (.bool a0_11) := (blk_cell BK319.out 11).trans rfl
                      have hfz33_0 := blk_frozen BK319.out 0
                      have hfz33_1 := blk_frozen BK319.out 1
                      have hfz33_2 := blk_frozen BK319.out 2
                      have hfz33_3 := blk_frozen BK319.out 3
                      have hfz33_4 := blk_frozen BK319.out 4
                      have hfz33_5 := blk_frozen BK319.out 5
                      have hfz33_6 := blk_frozen BK319.out 6
                      have hfz33_7 := blk_frozen BK319.out 7
                      have hfz33_8 := blk_frozen BK319.out 8
                      have hfz33_9 := blk_frozen BK319.out 9
                      have hfz33_10 := blk_frozen BK319.out 10
                      have hfz33_11 := blk_frozen BK319.out 11
                      go_wp2_with (first | (go_at_call 50; (with_reducible refine (dioramaref15_in.calls (l0_9.length : Int) 1 4 true _ A23.out).mono ?_); rintro e w' ⟨rfl, ⟨nd, rfl⟩⟩) | (go_at_call 115; (with_reducible refine (dioramaref15_all.calls kj12 _ _ l0_9 0 4095 false _ ?side1 ?side2 A25.out).mono ?_); (case side1 => repeat (first | exact (Kd.C_below HR0_9.out (by repeat (first | (with_reducible first | exact HB.out | apply below_alloc | apply pw_below_drewN | apply below_drew1 | refine below_set ?_ GE319.out) | exact HB.out))) | (with_reducible refine Kd.C_alloc ?_ _) | (with_reducible refine Kd.C_drewN ?_ _) | (with_reducible refine Kd.C_drew ?_))); (case side2 => exact HC0_9.out); rintro e w' ⟨rfl, ⟨nd, rfl⟩⟩))
                      go_ret
                      exact ⟨by first | rfl | (simp [errW_none, errW_some] <;> rfl) | (simp [*, errW_none, errW_some] <;> rfl), by repeat (first | (with_reducible first | exact HB.out | apply below_alloc | apply pw_below_drewN | apply below_drew1 | refine below_set ?_ GE319.out) | exact HB.out)⟩
                  · replace c24 := Bool.eq_false_iff.mpr c24
                    subst c24
                    have H1 : (some false) = some r := by rw [if_neg (show ¬ (false = true) by decide)] at H; exact H
                    clear H
                    have H := H1
                    clear H1
                    obtain rfl := Option.some.inj H
                    have hcz34_0 : wc.cell? ⟨gb319, 0, none⟩ = some (.int .i64 a0_0) := (blk_cell BK319.out 0).trans rfl
                    have hcz34_1 : wc.cell? ⟨gb319, 1, none⟩ = some (.int .i64 a0_1) := (blk_cell BK319.out 1).trans rfl
                    have hcz34_2 : wc.cell? ⟨gb319, 2, none⟩ = some (.slice A0_2 l0_2.length c0_2) := (blk_cell BK319.out 2).trans rfl
                    have hcz34_3 : wc.cell? ⟨gb319, 3, none⟩ = some (.slice A0_3 l0_3.length c0_3) := (blk_cell BK319.out 3).trans rfl
                    have hcz34_4 : wc.cell? ⟨gb319, 4, none⟩ = some (.slice A0_4 l0_4.length c0_4) := (blk_cell BK319.out 4).trans rfl
                    have hcz34_5 : wc.cell? ⟨gb319, 5, none⟩ = some (.int .i64 a0_5) := (blk_cell BK319.out 5).trans rfl
                    have hcz34_6 : wc.cell? ⟨gb319, 6, none⟩ = some (.int .i64 a0_6) := (blk_cell BK319.out 6).trans rfl
                    have hcz34_7 : wc.cell? ⟨gb319, 7, none⟩ = some (.int .i64 a0_7) := (blk_cell BK319.out 7).trans rfl
                    have hcz34_8 : wc.cell? ⟨gb319, 8, none⟩ = some (.int .i64 a0_8) := (blk_cell BK319.out 8).trans rfl
                    have hcz34_9 : wc.cell? ⟨gb319, 9, none⟩ = some (.slice A0_9 l0_9.length c0_9) := (blk_cell BK319.out 9).trans rfl
                    have hcz34_10 : wc.cell? ⟨gb319, 10, none⟩ = some (.int .i64 a0_10) := (blk_cell BK319.out 10).trans rfl
                    have hcz34_11 : wc.cell? ⟨gb319, 11, none⟩ = some (.bool a0_11) := (blk_cell BK319.out 11).trans rfl
                    have hfz34_0 := blk_frozen BK319.out 0
                    have hfz34_1 := blk_frozen BK319.out 1
                    have hfz34_2 := blk_frozen BK319.out 2
                    have hfz34_3 := blk_frozen BK319.out 3
                    have hfz34_4 := blk_frozen BK319.out 4
                    have hfz34_5 := blk_frozen BK319.out 5
                    have hfz34_6 := blk_frozen BK319.out 6
                    have hfz34_7 := blk_frozen BK319.out 7
                    have hfz34_8 := blk_frozen BK319.out 8
                    have hfz34_9 := blk_frozen BK319.out 9
                    have hfz34_10 := blk_frozen BK319.out 10
                    have hfz34_11 := blk_frozen BK319.out 11
                    go_wp2_with (first | (go_at_call 50; (with_reducible refine (dioramaref15_in.calls (l0_9.length : Int) 1 4 false _ A23.out).mono ?_); rintro e w' ⟨rfl, ⟨nd, rfl⟩⟩))
                    go_ret
                    exact ⟨by first | rfl | (simp [errW_none, errW_some] <;> rfl) | (simp [*, errW_none, errW_some] <;> rfl), by repeat (first | (with_reducible first | exact HB.out | apply below_alloc | apply pw_below_drewN | apply below_drew1 | refine below_set ?_ GE319.out) | exact HB.out)⟩
                · replace c22 := Bool.eq_false_iff.mpr c22
                  subst c22
                  have H1 : (some false) = some r := by rw [if_neg (show ¬ (false = true) by decide)] at H; exact H
                  clear H
                  have H := H1
                  clear H1
                  obtain rfl := Option.some.inj H
                  have hcz35_0 : wc.cell? ⟨gb319, 0, none⟩ = some (.int .i64 a0_0) := (blk_cell BK319.out 0).trans rfl
                  have hcz35_1 : wc.cell? ⟨gb319, 1, none⟩ = some (.int .i64 a0_1) := (blk_cell BK319.out 1).trans rfl
                  have hcz35_2 : wc.cell? ⟨gb319, 2, none⟩ = some (.slice A0_2 l0_2.length c0_2) := (blk_cell BK319.out 2).trans rfl
                  have hcz35_3 : wc.cell? ⟨gb319, 3, none⟩ = some (.slice A0_3 l0_3.length c0_3) := (blk_cell BK319.out 3).trans rfl
                  have hcz35_4 : wc.cell? ⟨gb319, 4, none⟩ = some (.slice A0_4 l0_4.length c0_4) := (blk_cell BK319.out 4).trans rfl
                  have hcz35_5 : wc.cell? ⟨gb319, 5, none⟩ = some (.int .i64 a0_5) := (blk_cell BK319.out 5).trans rfl
                  have hcz35_6 : wc.cell? ⟨gb319, 6, none⟩ = some (.int .i64 a0_6) := (blk_cell BK319.out 6).trans rfl
                  have hcz35_7 : wc.cell? ⟨gb319, 7, none⟩ = some (.int .i64 a0_7) := (blk_cell BK319.out 7).trans rfl
                  have hcz35_8 : wc.cell? ⟨gb319, 8, none⟩ = some (.int .i64 a0_8) := (blk_cell BK319.out 8).trans rfl
                  have hcz35_9 : wc.cell? ⟨gb319, 9, none⟩ = some (.slice A0_9 l0_9.length c0_9) := (blk_cell BK319.out 9).trans rfl
                  have hcz35_10 : wc.cell? ⟨gb319, 10, none⟩ = some (.int .i64 a0_10) := (blk_cell BK319.out 10).trans rfl
                  have hcz35_11 : wc.cell? ⟨gb319, 11, none⟩ = some (.bool a0_11) := (blk_cell BK319.out 11).trans rfl
                  have hfz35_0 := blk_frozen BK319.out 0
                  have hfz35_1 := blk_frozen BK319.out 1
                  have hfz35_2 := blk_frozen BK319.out 2
                  have hfz35_3 := blk_frozen BK319.out 3
                  have hfz35_4 := blk_frozen BK319.out 4
                  have hfz35_5 := blk_frozen BK319.out 5
                  have hfz35_6 := blk_frozen BK319.out 6
                  have hfz35_7 := blk_frozen BK319.out 7
                  have hfz35_8 := blk_frozen BK319.out 8
                  have hfz35_9 := blk_frozen BK319.out 9
                  have hfz35_10 := blk_frozen BK319.out 10
                  have hfz35_11 := blk_frozen BK319.out 11
                  go_wp2
                  go_ret
                  exact ⟨by first | rfl | (simp [errW_none, errW_some] <;> rfl) | (simp [*, errW_none, errW_some] <;> rfl), by repeat (first | (with_reducible first | exact HB.out | apply below_alloc | apply pw_below_drewN | apply below_drew1 | refine below_set ?_ GE319.out) | exact HB.out)⟩
              · rw [if_neg c21] at H
                have c21b0 : (a0_1 == 2) = false := beq_eq_false_iff_ne.mpr c21
                have c21b1 : (a0_1 != 2) = true := bne_iff_ne.mpr c21
                by_cases c36 : a0_1 = 3
                · rw [if_pos c36] at H
                  have c36b0 : (a0_1 == 3) = true := beq_iff_eq.mpr c36
                  have c36b1 : (a0_1 != 3) = false := bne_eq_false_iff_eq.mpr c36
                  clear c36
                  by_cases c37 : x3_12 = true
                  · subst c37
                    have H1 : ((dioramaref15_in.f a0_5 1 8).bind fun t328 => (if t328 = true then ((dioramaref15_in.f a0_6 1 8).bind fun t329 => (if t329 = true then (some ((l0_3.length : Int) == (wrap64 (a0_5 * a0_6)))) else (some false))) else (some false))) = some r := by rw [if_pos rfl] at H; exact H
                    clear H
                    have H := H1
                    clear H1
                    replace H := Option.bind_eq_some_iff.mp H
                    obtain ⟨t328, A380, H⟩ := H
                    replace H : (if t328 = true then ((dioramaref15_in.f a0_6 1 8).bind fun t329 => (if t329 = true then (some ((l0_3.length : Int) == (wrap64 (a0_5 * a0_6)))) else (some false))) else (some false)) = some r := H
                    have A38 := Aside0.mk A380
                    clear A380
                    by_cases c39 : t328 = true
                    · subst c39
                      have H1 : ((dioramaref15_in.f a0_6 1 8).bind fun t329 => (if t329 = true then (some ((l0_3.length : Int) == (wrap64 (a0_5 * a0_6)))) else (some false))) = some r := by rw [if_pos rfl] at H; exact H
                      clear H
                      have H := H1
                      clear H1
                      replace H := Option.bind_eq_some_iff.mp H
                      obtain ⟨t329, A400, H⟩ := H
                      replace H : (if t329 = true then (some ((l0_3.length : Int) == (wrap64 (a0_5 * a0_6)))) else (some false)) = some r := H
                      have A40 := Aside0.mk A400
                      clear A400
                      by_cases c41 : t329 = true
                      · subst c41
                        have H1 : (some ((l0_3.length : Int) == (wrap64 (a0_5 * a0_6)))) = some r := by rw [if_pos rfl] at H; exact H
                        clear H
                        have H := H1
                        clear H1
                        obtain rfl := Option.some.inj H
                        have hcz42_0 : wc.cell? ⟨gb319, 0, none⟩ = some (.int .i64 a0_0) := (blk_cell BK319.out 0).trans rfl
                        have hcz42_1 : wc.cell? ⟨gb319, 1, none⟩ = some (.int .i64 a0_1) := (blk_cell BK319.out 1).trans rfl
                        have hcz42_2 : wc.cell? ⟨gb319, 2, none⟩ = some (.slice A0_2 l0_2.length c0_2) := (blk_cell BK319.out 2).trans rfl
                        have hcz42_3 : wc.cell? ⟨gb319, 3, none⟩ = some (.slice A0_3 l0_3.length c0_3) := (blk_cell BK319.out 3).trans rfl
                        have hcz42_4 : wc.cell? ⟨gb319, 4, none⟩ = some (.slice A0_4 l0_4.length c0_4) := (blk_cell BK319.out 4).trans rfl
                        have hcz42_5 : wc.cell? ⟨gb319, 5, none⟩ = some (.int .i64 a0_5) := (blk_cell BK319.out 5).trans rfl
                        have hcz42_6 : wc.cell? ⟨gb319, 6, none⟩ = some (.int .i64 a0_6) := (blk_cell BK319.out 6).trans rfl
                        have hcz42_7 : wc.cell? ⟨gb319, 7, none⟩ = some (.int .i64 a0_7) := (blk_cell BK319.out 7).trans rfl
                        have hcz42_8 : wc.cell? ⟨gb319, 8, none⟩ = some (.int .i64 a0_8) := (blk_cell BK319.out 8).trans rfl
                        have hcz42_9 : wc.cell? ⟨gb319, 9, none⟩ = some (.slice A0_9 l0_9.length c0_9) := (blk_cell BK319.out 9).trans rfl
                        have hcz42_10 : wc.cell? ⟨gb319, 10, none⟩ = some (.int .i64 a0_10) := (blk_cell BK319.out 10).trans rfl
                        have hcz42_11 : wc.cell? ⟨gb319, 11, none⟩ = some (.bool a0_11) := (blk_cell BK319.out 11).trans rfl
                        have hfz42_0 := blk_frozen BK319.out 0
                        have hfz42_1 := blk_frozen BK319.out 1
                        have hfz42_2 := blk_frozen BK319.out 2
                        have hfz42_3 := blk_frozen BK319.out 3
                        have hfz42_4 := blk_frozen BK319.out 4
                        have hfz42_5 := blk_frozen BK319.out 5
                        have hfz42_6 := blk_frozen BK319.out 6
                        have hfz42_7 := blk_frozen BK319.out 7
                        have hfz42_8 := blk_frozen BK319.out 8
                        have hfz42_9 := blk_frozen BK319.out 9
                        have hfz42_10 := blk_frozen BK319.out 10
                        have hfz42_11 := blk_frozen BK319.out 11
                        go_wp2_with (first | (go_at_call 50; (with_reducible refine (dioramaref15_in.calls a0_5 1 8 true _ A38.out).mono ?_); rintro e w' ⟨rfl, ⟨nd, rfl⟩⟩) | (go_at_call 50; (with_reducible refine (dioramaref15_in.calls a0_6 1 8 true _ A40.out).mono ?_); rintro e w' ⟨rfl, ⟨nd, rfl⟩⟩))
                        go_ret
                        exact ⟨by first | rfl | (simp [errW_none, errW_some] <;> rfl) | (simp [*, errW_none, errW_some] <;> rfl), by repeat (first | (with_reducible first | exact HB.out | apply below_alloc | apply pw_below_drewN | apply below_drew1 | refine below_set ?_ GE319.out) | exact HB.out)⟩
                      · replace c41 := Bool.eq_false_iff.mpr c41
                        subst c41
                        have H1 : (some false) = some r := by rw [if_neg (show ¬ (false = true) by decide)] at H; exact H
                        clear H
                        have H := H1
                        clear H1
                        obtain rfl := Option.some.inj H
                        have hcz43_0 : wc.cell? ⟨gb319, 0, none⟩ = some (.int .i64 a0_0) := (blk_cell BK319.out 0).trans rfl
                        have hcz43_1 : wc.cell? ⟨gb319, 1, none⟩ = some (.int .i64 a0_1) := (blk_cell BK319.out 1).trans rfl
                        have hcz43_2 : wc.cell? ⟨gb319, 2, none⟩ = some (.slice A0_2 l0_2.length c0_2) := (blk_cell BK319.out 2).trans rfl
                        have hcz43_3 : wc.cell? ⟨gb319, 3, none⟩ = some (.slice A0_3 l0_3.length c0_3) := (blk_cell BK319.out 3).trans rfl
                        have hcz43_4 : wc.cell? ⟨gb319, 4, none⟩ = some (.slice A0_4 l0_4.length c0_4) := (blk_cell BK319.out 4).trans rfl
                        have hcz43_5 : wc.cell? ⟨gb319, 5, none⟩ = some (.int .i64 a0_5) := (blk_cell BK319.out 5).trans rfl
                        have hcz43_6 : wc.cell? ⟨gb319, 6, none⟩ = some (.int .i64 a0_6) := (blk_cell BK319.out 6).trans rfl
                        have hcz43_7 : wc.cell? ⟨gb319, 7, none⟩ = some (.int .i64 a0_7) := (blk_cell BK319.out 7).trans rfl
                        have hcz43_8 : wc.cell? ⟨gb319, 8, none⟩ = some (.int .i64 a0_8) := (blk_cell BK319.out 8).trans rfl
                        have hcz43_9 : wc.cell? ⟨gb319, 9, none⟩ = some (.slice A0_9 l0_9.length c0_9) := (blk_cell BK319.out 9).trans rfl
                        have hcz43_10 : wc.cell? ⟨gb319, 10, none⟩ = some (.int .i64 a0_10) := (blk_cell BK319.out 10).trans rfl
                        have hcz43_11 : wc.cell? ⟨gb319, 11, none⟩ = some (.bool a0_11) := (blk_cell BK319.out 11).trans rfl
                        have hfz43_0 := blk_frozen BK319.out 0
                        have hfz43_1 := blk_frozen BK319.out 1
                        have hfz43_2 := blk_frozen BK319.out 2
                        have hfz43_3 := blk_frozen BK319.out 3
                        have hfz43_4 := blk_frozen BK319.out 4
                        have hfz43_5 := blk_frozen BK319.out 5
                        have hfz43_6 := blk_frozen BK319.out 6
                        have hfz43_7 := blk_frozen BK319.out 7
                        have hfz43_8 := blk_frozen BK319.out 8
                        have hfz43_9 := blk_frozen BK319.out 9
                        have hfz43_10 := blk_frozen BK319.out 10
                        have hfz43_11 := blk_frozen BK319.out 11
                        go_wp2_with (first | (go_at_call 50; (with_reducible refine (dioramaref15_in.calls a0_5 1 8 true _ A38.out).mono ?_); rintro e w' ⟨rfl, ⟨nd, rfl⟩⟩) | (go_at_call 50; (with_reducible refine (dioramaref15_in.calls a0_6 1 8 false _ A40.out).mono ?_); rintro e w' ⟨rfl, ⟨nd, rfl⟩⟩))
                        go_ret
                        exact ⟨by first | rfl | (simp [errW_none, errW_some] <;> rfl) | (simp [*, errW_none, errW_some] <;> rfl), by repeat (first | (with_reducible first | exact HB.out | apply below_alloc | apply pw_below_drewN | apply below_drew1 | refine below_set ?_ GE319.out) | exact HB.out)⟩
                    · replace c39 := Bool.eq_false_iff.mpr c39
                      subst c39
                      have H1 : (some false) = some r := by rw [if_neg (show ¬ (false = true) by decide)] at H; exact H
                      clear H
                      have H := H1
                      clear H1
                      obtain rfl := Option.some.inj H
                      have hcz44_0 : wc.cell? ⟨gb319, 0, none⟩ = some (.int .i64 a0_0) := (blk_cell BK319.out 0).trans rfl
                      have hcz44_1 : wc.cell? ⟨gb319, 1, none⟩ = some (.int .i64 a0_1) := (blk_cell BK319.out 1).trans rfl
                      have hcz44_2 : wc.cell? ⟨gb319, 2, none⟩ = some (.slice A0_2 l0_2.length c0_2) := (blk_cell BK319.out 2).trans rfl
                      have hcz44_3 : wc.cell? ⟨gb319, 3, none⟩ = some (.slice A0_3 l0_3.length c0_3) := (blk_cell BK319.out 3).trans rfl
                      have hcz44_4 : wc.cell? ⟨gb319, 4, none⟩ = some (.slice A0_4 l0_4.length c0_4) := (blk_cell BK319.out 4).trans rfl
                      have hcz44_5 : wc.cell? ⟨gb319, 5, none⟩ = some (.int .i64 a0_5) := (blk_cell BK319.out 5).trans rfl
                      have hcz44_6 : wc.cell? ⟨gb319, 6, none⟩ = some (.int .i64 a0_6) := (blk_cell BK319.out 6).trans rfl
                      have hcz44_7 : wc.cell? ⟨gb319, 7, none⟩ = some (.int .i64 a0_7) := (blk_cell BK319.out 7).trans rfl
                      have hcz44_8 : wc.cell? ⟨gb319, 8, none⟩ = some (.int .i64 a0_8) := (blk_cell BK319.out 8).trans rfl
                      have hcz44_9 : wc.cell? ⟨gb319, 9, none⟩ = some (.slice A0_9 l0_9.length c0_9) := (blk_cell BK319.out 9).trans rfl
                      have hcz44_10 : wc.cell? ⟨gb319, 10, none⟩ = some (.int .i64 a0_10) := (blk_cell BK319.out 10).trans rfl
                      have hcz44_11 : wc.cell? ⟨gb319, 11, none⟩ = some (.bool a0_11) := (blk_cell BK319.out 11).trans rfl
                      have hfz44_0 := blk_frozen BK319.out 0
                      have hfz44_1 := blk_frozen BK319.out 1
                      have hfz44_2 := blk_frozen BK319.out 2
                      have hfz44_3 := blk_frozen BK319.out 3
                      have hfz44_4 := blk_frozen BK319.out 4
                      have hfz44_5 := blk_frozen BK319.out 5
                      have hfz44_6 := blk_frozen BK319.out 6
                      have hfz44_7 := blk_frozen BK319.out 7
                      have hfz44_8 := blk_frozen BK319.out 8
                      have hfz44_9 := blk_frozen BK319.out 9
                      have hfz44_10 := blk_frozen BK319.out 10
                      have hfz44_11 := blk_frozen BK319.out 11
                      go_wp2_with (first | (go_at_call 50; (with_reducible refine (dioramaref15_in.calls a0_5 1 8 false _ A38.out).mono ?_); rintro e w' ⟨rfl, ⟨nd, rfl⟩⟩))
                      go_ret
                      exact ⟨by first | rfl | (simp [errW_none, errW_some] <;> rfl) | (simp [*, errW_none, errW_some] <;> rfl), by repeat (first | (with_reducible first | exact HB.out | apply below_alloc | apply pw_below_drewN | apply below_drew1 | refine below_set ?_ GE319.out) | exact HB.out)⟩
                  · replace c37 := Bool.eq_false_iff.mpr c37
                    subst c37
                    have H1 : (some false) = some r := by rw [if_neg (show ¬ (false = true) by decide)] at H; exact H
                    clear H
                    have H := H1
                    clear H1
                    obtain rfl := Option.some.inj H
                    have hcz45_0 : wc.cell? ⟨gb319, 0, none⟩ = some (.int .i64 a0_0) := (blk_cell BK319.out 0).trans rfl
                    have hcz45_1 : wc.cell? ⟨gb319, 1, none⟩ = some (.int .i64 a0_1) := (blk_cell BK319.out 1).trans rfl
                    have hcz45_2 : wc.cell? ⟨gb319, 2, none⟩ = some (.slice A0_2 l0_2.length c0_2) := (blk_cell BK319.out 2).trans rfl
                    have hcz45_3 : wc.cell? ⟨gb319, 3, none⟩ = some (.slice A0_3 l0_3.length c0_3) := (blk_cell BK319.out 3).trans rfl
                    have hcz45_4 : wc.cell? ⟨gb319, 4, none⟩ = some (.slice A0_4 l0_4.length c0_4) := (blk_cell BK319.out 4).trans rfl
                    have hcz45_5 : wc.cell? ⟨gb319, 5, none⟩ = some (.int .i64 a0_5) := (blk_cell BK319.out 5).trans rfl
                    have hcz45_6 : wc.cell? ⟨gb319, 6, none⟩ = some (.int .i64 a0_6) := (blk_cell BK319.out 6).trans rfl
                    have hcz45_7 : wc.cell? ⟨gb319, 7, none⟩ = some (.int .i64 a0_7) := (blk_cell BK319.out 7).trans rfl
                    have hcz45_8 : wc.cell? ⟨gb319, 8, none⟩ = some (.int .i64 a0_8) := (blk_cell BK319.out 8).trans rfl
                    have hcz45_9 : wc.cell? ⟨gb319, 9, none⟩ = some (.slice A0_9 l0_9.length c0_9) := (blk_cell BK319.out 9).trans rfl
                    have hcz45_10 : wc.cell? ⟨gb319, 10, none⟩ = some (.int .i64 a0_10) := (blk_cell BK319.out 10).trans rfl
                    have hcz45_11 : wc.cell? ⟨gb319, 11, none⟩ = some (.bool a0_11) := (blk_cell BK319.out 11).trans rfl
                    have hfz45_0 := blk_frozen BK319.out 0
                    have hfz45_1 := blk_frozen BK319.out 1
                    have hfz45_2 := blk_frozen BK319.out 2
                    have hfz45_3 := blk_frozen BK319.out 3
                    have hfz45_4 := blk_frozen BK319.out 4
                    have hfz45_5 := blk_frozen BK319.out 5
                    have hfz45_6 := blk_frozen BK319.out 6
                    have hfz45_7 := blk_frozen BK319.out 7
                    have hfz45_8 := blk_frozen BK319.out 8
                    have hfz45_9 := blk_frozen BK319.out 9
                    have hfz45_10 := blk_frozen BK319.out 10
                    have hfz45_11 := blk_frozen BK319.out 11
                    go_wp2
                    go_ret
                    exact ⟨by first | rfl | (simp [errW_none, errW_some] <;> rfl) | (simp [*, errW_none, errW_some] <;> rfl), by repeat (first | (with_reducible first | exact HB.out | apply below_alloc | apply pw_below_drewN | apply below_drew1 | refine below_set ?_ GE319.out) | exact HB.out)⟩
                · rw [if_neg c36] at H
                  have c36b0 : (a0_1 == 3) = false := beq_eq_false_iff_ne.mpr c36
                  have c36b1 : (a0_1 != 3) = true := bne_iff_ne.mpr c36
                  obtain rfl := Option.some.inj H
                  have hcz46_0 : wc.cell? ⟨gb319, 0, none⟩ = some (.int .i64 a0_0) := (blk_cell BK319.out 0).trans rfl
                  have hcz46_1 : wc.cell? ⟨gb319, 1, none⟩ = some (.int .i64 a0_1) := (blk_cell BK319.out 1).trans rfl
                  have hcz46_2 : wc.cell? ⟨gb319, 2, none⟩ = some (.slice A0_2 l0_2.length c0_2) := (blk_cell BK319.out 2).trans rfl
                  have hcz46_3 : wc.cell? ⟨gb319, 3, none⟩ = some (.slice A0_3 l0_3.length c0_3) := (blk_cell BK319.out 3).trans rfl
                  have hcz46_4 : wc.cell? ⟨gb319, 4, none⟩ = some (.slice A0_4 l0_4.length c0_4) := (blk_cell BK319.out 4).trans rfl
                  have hcz46_5 : wc.cell? ⟨gb319, 5, none⟩ = some (.int .i64 a0_5) := (blk_cell BK319.out 5).trans rfl
                  have hcz46_6 : wc.cell? ⟨gb319, 6, none⟩ = some (.int .i64 a0_6) := (blk_cell BK319.out 6).trans rfl
                  have hcz46_7 : wc.cell? ⟨gb319, 7, none⟩ = some (.int .i64 a0_7) := (blk_cell BK319.out 7).trans rfl
                  have hcz46_8 : wc.cell? ⟨gb319, 8, none⟩ = some (.int .i64 a0_8) := (blk_cell BK319.out 8).trans rfl
                  have hcz46_9 : wc.cell? ⟨gb319, 9, none⟩ = some (.slice A0_9 l0_9.length c0_9) := (blk_cell BK319.out 9).trans rfl
                  have hcz46_10 : wc.cell? ⟨gb319, 10, none⟩ = some (.int .i64 a0_10) := (blk_cell BK319.out 10).trans rfl
                  have hcz46_11 : wc.cell? ⟨gb319, 11, none⟩ = some (.bool a0_11) := (blk_cell BK319.out 11).trans rfl
                  have hfz46_0 := blk_frozen BK319.out 0
                  have hfz46_1 := blk_frozen BK319.out 1
                  have hfz46_2 := blk_frozen BK319.out 2
                  have hfz46_3 := blk_frozen BK319.out 3
                  have hfz46_4 := blk_frozen BK319.out 4
                  have hfz46_5 := blk_frozen BK319.out 5
                  have hfz46_6 := blk_frozen BK319.out 6
                  have hfz46_7 := blk_frozen BK319.out 7
                  have hfz46_8 := blk_frozen BK319.out 8
                  have hfz46_9 := blk_frozen BK319.out 9
                  have hfz46_10 := blk_frozen BK319.out 10
                  have hfz46_11 := blk_frozen BK319.out 11
                  go_wp2
                  go_ret
                  exact ⟨by first | rfl | (simp [errW_none, errW_some] <;> rfl) | (simp [*, errW_none, errW_some] <;> rfl), by repeat (first | (with_reducible first | exact HB.out | apply below_alloc | apply pw_below_drewN | apply below_drew1 | refine below_set ?_ GE319.out) | exact HB.out)⟩
end Go.Proofs.YtphkionjjhhhlaaGreat.Q
end
section
namespace Go.Proofs.YtphkionjjhhhlaaGreat.Q
open Go.RowKit Go.Proofs.YtphkionjjhhhlaaGreatW.PrintWords Go.Proofs.YtphkionjjhhhlaaGreatW.PrintLast Go.Proofs.YtphkionjjhhhlaaGreatW.PrintMore
def dioramaref15_clean.j0 : Nat → Bool → Int → Int → List Int → List Int → List Int → Int → Int → Int → Int → List Int → Int → Bool → Option (Bool)
  | 0, _, _, _, _, _, _, _, _, _, _, _, _, _ => none
  | k + 1, x28, x331000, x331001, x331002, x331003, x331004, x331005, x331006, x331007, x331008, x331009, x331010, x331011 => if x28 = true then (some false) else (if x331001 = 2 then (if x331001 = 3 then (some true) else (if x331005 = 0 then (if x331006 = 0 then (some true) else (some false)) else (some false))) else (if (x331004.length : Int) > 0 then (some false) else (if (x331009.length : Int) > 0 then (some false) else (if x331001 = 3 then (some true) else (if x331005 = 0 then (if x331006 = 0 then (if x331007 = 0 then (some (x331008 == 0)) else (some false)) else (some false)) else (some false))))))
def dioramaref15_clean.f (k : Nat) (a0_0 : Int) (a0_1 : Int) (l0_2 : List Int) (l0_3 : List Int) (l0_4 : List Int) (a0_5 : Int) (a0_6 : Int) (a0_7 : Int) (a0_8 : Int) (l0_9 : List Int) (a0_10 : Int) (a0_11 : Bool) : Option (Bool) := if (l0_2.length : Int) > 65536 then (dioramaref15_clean.j0 k true a0_0 a0_1 l0_2 l0_3 l0_4 a0_5 a0_6 a0_7 a0_8 l0_9 a0_10 a0_11) else (if a0_1 = 0 then (dioramaref15_clean.j0 k (decide ((l0_3.length : Int) > 0)) a0_0 a0_1 l0_2 l0_3 l0_4 a0_5 a0_6 a0_7 a0_8 l0_9 a0_10 a0_11) else (if (l0_2.length : Int) > 0 then (dioramaref15_clean.j0 k true a0_0 a0_1 l0_2 l0_3 l0_4 a0_5 a0_6 a0_7 a0_8 l0_9 a0_10 a0_11) else (dioramaref15_clean.j0 k false a0_0 a0_1 l0_2 l0_3 l0_4 a0_5 a0_6 a0_7 a0_8 l0_9 a0_10 a0_11)))
set_option maxHeartbeats 8000000 in
set_option maxRecDepth 100000 in
theorem dioramaref15_clean.calls (k : Nat) (a0_0 : Int) (a0_1 : Int) (A0_2 : Option Addr) (c0_2 : Nat) (l0_2 : List Int) (A0_3 : Option Addr) (c0_3 : Nat) (l0_3 : List Int) (A0_4 : Option Addr) (c0_4 : Nat) (l0_4 : List Int) (a0_5 : Int) (a0_6 : Int) (a0_7 : Int) (a0_8 : Int) (A0_9 : Option Addr) (c0_9 : Nat) (l0_9 : List Int) (a0_10 : Int) (a0_11 : Bool) (r : Bool) (w : World) (hr0_2 : Kd.C (Kd.int .u8) w A0_2 l0_2.length l0_2) (hc0_2 : l0_2.length ≤ c0_2) (hr0_3 : Kd.C (Kd.int .i64) w A0_3 l0_3.length l0_3) (hc0_3 : l0_3.length ≤ c0_3) (hr0_4 : Kd.C (Kd.int .i64) w A0_4 l0_4.length l0_4) (hc0_4 : l0_4.length ≤ c0_4) (hr0_9 : Kd.C (Kd.int .i64) w A0_9 l0_9.length l0_9) (hc0_9 : l0_9.length ≤ c0_9) (h : dioramaref15_clean.f k a0_0 a0_1 l0_2 l0_3 l0_4 a0_5 a0_6 a0_7 a0_8 l0_9 a0_10 a0_11 = some r) :
    Calls Tryz.prog 60 #[.agg #[.int .i64 a0_0, .int .i64 a0_1, .slice A0_2 l0_2.length c0_2, .slice A0_3 l0_3.length c0_3, .slice A0_4 l0_4.length c0_4, .int .i64 a0_5, .int .i64 a0_6, .int .i64 a0_7, .int .i64 a0_8, .slice A0_9 l0_9.length c0_9, .int .i64 a0_10, .bool a0_11]] w fun e w' => e = .returned (.bool r) ∧ Below w.heap.size w w' := by
  have hu68 := Tryz.underlying68
  have HR0_2 := Aside0.mk hr0_2
  have HC0_2 := Aside0.mk hc0_2
  clear hr0_2 hc0_2
  have HR0_3 := Aside0.mk hr0_3
  have HC0_3 := Aside0.mk hc0_3
  clear hr0_3 hc0_3
  have HR0_4 := Aside0.mk hr0_4
  have HC0_4 := Aside0.mk hc0_4
  clear hr0_4 hc0_4
  have HR0_9 := Aside0.mk hr0_9
  have HC0_9 := Aside0.mk hc0_9
  clear hr0_9 hc0_9
  have HB := Aside0.mk (Below.refl w.heap.size w)
  have H : (if (l0_2.length : Int) > 65536 then (dioramaref15_clean.j0 k true a0_0 a0_1 l0_2 l0_3 l0_4 a0_5 a0_6 a0_7 a0_8 l0_9 a0_10 a0_11) else (if a0_1 = 0 then (dioramaref15_clean.j0 k (decide ((l0_3.length : Int) > 0)) a0_0 a0_1 l0_2 l0_3 l0_4 a0_5 a0_6 a0_7 a0_8 l0_9 a0_10 a0_11) else (if (l0_2.length : Int) > 0 then (dioramaref15_clean.j0 k true a0_0 a0_1 l0_2 l0_3 l0_4 a0_5 a0_6 a0_7 a0_8 l0_9 a0_10 a0_11) else (dioramaref15_clean.j0 k false a0_0 a0_1 l0_2 l0_3 l0_4 a0_5 a0_6 a0_7 a0_8 l0_9 a0_10 a0_11)))) = some r := h
  clear h
  have HC2 := Aside0.mk H
  clear H
  go_enter Tryz.func60, Tryz.ntmps60
  go_upto_region 1 with (first | ((with_reducible refine gate_dst (N := 1) rfl ?_); (try (refine gate_guard (by rfl) ?_; dsimp only)); refine box_event ?hg (N := 1) ?hd (cs := #[.int .i64 a0_0, .int .i64 a0_1, .slice A0_2 l0_2.length c0_2, .slice A0_3 l0_3.length c0_3, .slice A0_4 l0_4.length c0_4, .int .i64 a0_5, .int .i64 a0_6, .int .i64 a0_7, .int .i64 a0_8, .slice A0_9 l0_9.length c0_9, .int .i64 a0_10, .bool a0_11]) (t := 68) ?hr ?_; (case hd => rfl); (case hg => rfl); (case hr => first | (go_simp; done) | (go_simp; rfl)); intro gb330 hg w3 hbox hb; have n0_ := Aside0.mk (below_step (by repeat (first | (with_reducible first | exact HB.out | apply below_alloc | apply pw_below_drewN | apply below_drew1) | exact HB.out)) hb); have n1_ := Aside0.mk (hbox); have n2_ := Aside0.mk ((by rw [hg]; exact (below_size (by repeat (first | (with_reducible first | exact HB.out | apply below_alloc | apply pw_below_drewN | apply below_drew1) | exact HB.out))) : w.heap.size ≤ gb330)); have n3_ := Aside0.mk ((by rw [hg]; exact (below_size (by repeat (first | (with_reducible first | exact HB.out | apply below_alloc | apply pw_below_drewN | apply below_drew1) | exact HB.out))) : w.heap.size ≤ gb330)); clear HB; have HB := n0_; have BK330 := n1_; have GW330 := n2_; have GE330 := n3_; clear n0_ n1_ n2_ n3_; clear hb hbox hg))
  (try simp only [Act.put, List.setIfInBounds_toArray, List.set_cons_zero, List.set_cons_succ])
  go_cut [28] (fun v28 wc => ∃ (kq : Nat) (x28_1 : Bool), v28 = .bool x28_1 ∧ Aside0 (dioramaref15_clean.j0 kq x28_1 a0_0 a0_1 l0_2 l0_3 l0_4 a0_5 a0_6 a0_7 a0_8 l0_9 a0_10 a0_11 = some r) ∧ Aside0 (kq ≤ k) ∧ Aside0 (wc.heap[gb330]? = some (.cells #[.int .i64 a0_0, .int .i64 a0_1, (.slice A0_2 l0_2.length c0_2), (.slice A0_3 l0_3.length c0_3), (.slice A0_4 l0_4.length c0_4), .int .i64 a0_5, .int .i64 a0_6, .int .i64 a0_7, .int .i64 a0_8, (.slice A0_9 l0_9.length c0_9), .int .i64 a0_10, .bool a0_11] 68 (0, 0))) ∧ Aside0 (Below w.heap.size w wc))
  case first =>
    have H := HC2.out
    clear HC2
    by_cases c4 : (l0_2.length : Int) > 65536
    · rw [if_pos c4] at H
      have c4b0 : decide (65536 < (l0_2.length : Int)) = true := decide_eq_true c4
      have c4b1 : decide (65536 < l0_2.length) = true := decide_eq_true (by omega)
      clear c4
      (first | rw [c4b0] | (simp only [i64_w, i32_w]; rw [c4b0]) | skip)
      have H' := Aside0.mk H
      clear H
      have hcz5_0 : w3.cell? ⟨gb330, 0, none⟩ = some (.int .i64 a0_0) := (blk_cell BK330.out 0).trans rfl
      have hcz5_1 : w3.cell? ⟨gb330, 1, none⟩ = some (.int .i64 a0_1) := (blk_cell BK330.out 1).trans rfl
      have hcz5_2 : w3.cell? ⟨gb330, 2, none⟩ = some (.slice A0_2 l0_2.length c0_2) := (blk_cell BK330.out 2).trans rfl
      have hcz5_3 : w3.cell? ⟨gb330, 3, none⟩ = some (.slice A0_3 l0_3.length c0_3) := (blk_cell BK330.out 3).trans rfl
      have hcz5_4 : w3.cell? ⟨gb330, 4, none⟩ = some (.slice A0_4 l0_4.length c0_4) := (blk_cell BK330.out 4).trans rfl
      have hcz5_5 : w3.cell? ⟨gb330, 5, none⟩ = some (.int .i64 a0_5) := (blk_cell BK330.out 5).trans rfl
      have hcz5_6 : w3.cell? ⟨gb330, 6, none⟩ = some (.int .i64 a0_6) := (blk_cell BK330.out 6).trans rfl
      have hcz5_7 : w3.cell? ⟨gb330, 7, none⟩ = some (.int .i64 a0_7) := (blk_cell BK330.out 7).trans rfl
      have hcz5_8 : w3.cell? ⟨gb330, 8, none⟩ = some (.int .i64 a0_8) := (blk_cell BK330.out 8).trans rfl
      have hcz5_9 : w3.cell? ⟨gb330, 9, none⟩ = some (.slice A0_9 l0_9.length c0_9) := (blk_cell BK330.out 9).trans rfl
      have hcz5_10 : w3.cell? ⟨gb330, 10, none⟩ = some (.int .i64 a0_10) := (blk_cell BK330.out 10).trans rfl
      have hcz5_11 : w3.cell? ⟨gb330, 11, none⟩ = some (.bool a0_11) := (blk_cell BK330.out 11).trans rfl
      have hfz5_0 := blk_frozen BK330.out 0
      have hfz5_1 := blk_frozen BK330.out 1
      have hfz5_2 := blk_frozen BK330.out 2
      have hfz5_3 := blk_frozen BK330.out 3
      have hfz5_4 := blk_frozen BK330.out 4
      have hfz5_5 := blk_frozen BK330.out 5
      have hfz5_6 := blk_frozen BK330.out 6
      have hfz5_7 := blk_frozen BK330.out 7
      have hfz5_8 := blk_frozen BK330.out 8
      have hfz5_9 := blk_frozen BK330.out 9
      have hfz5_10 := blk_frozen BK330.out 10
      have hfz5_11 := blk_frozen BK330.out 11
      go_wp2
      go_meet
      case rel => exact ⟨_, (true), (by first | rfl | (simp; done) | (simp [*]; done)), H', ⟨by first | omega | exact Nat.le_refl _⟩, ⟨by (with_reducible repeat (first | refine blk_drewN ?_ _ | refine blk_drew ?_ | refine blk_alloc ?_ _)); exact BK330.out⟩, ⟨by repeat (first | (with_reducible first | exact HB.out | apply below_alloc | apply pw_below_drewN | apply below_drew1 | refine below_set ?_ GE330.out) | exact HB.out)⟩⟩
    · rw [if_neg c4] at H
      have c4b0 : decide (65536 < (l0_2.length : Int)) = false := decide_eq_false c4
      have c4b1 : decide (65536 < l0_2.length) = false := decide_eq_false (by omega)
      clear c4
      (first | rw [c4b0] | (simp only [i64_w, i32_w]; rw [c4b0]) | skip)
      by_cases c6 : a0_1 = 0
      · rw [if_pos c6] at H
        have c6b0 : (a0_1 == 0) = true := beq_iff_eq.mpr c6
        have c6b1 : (a0_1 != 0) = false := bne_eq_false_iff_eq.mpr c6
        clear c6
        have H' := Aside0.mk H
        clear H
        have hcz7_0 : w3.cell? ⟨gb330, 0, none⟩ = some (.int .i64 a0_0) := (blk_cell BK330.out 0).trans rfl
        have hcz7_1 : w3.cell? ⟨gb330, 1, none⟩ = some (.int .i64 a0_1) := (blk_cell BK330.out 1).trans rfl
        have hcz7_2 : w3.cell? ⟨gb330, 2, none⟩ = some (.slice A0_2 l0_2.length c0_2) := (blk_cell BK330.out 2).trans rfl
        have hcz7_3 : w3.cell? ⟨gb330, 3, none⟩ = some (.slice A0_3 l0_3.length c0_3) := (blk_cell BK330.out 3).trans rfl
        have hcz7_4 : w3.cell? ⟨gb330, 4, none⟩ = some (.slice A0_4 l0_4.length c0_4) := (blk_cell BK330.out 4).trans rfl
        have hcz7_5 : w3.cell? ⟨gb330, 5, none⟩ = some (.int .i64 a0_5) := (blk_cell BK330.out 5).trans rfl
        have hcz7_6 : w3.cell? ⟨gb330, 6, none⟩ = some (.int .i64 a0_6) := (blk_cell BK330.out 6).trans rfl
        have hcz7_7 : w3.cell? ⟨gb330, 7, none⟩ = some (.int .i64 a0_7) := (blk_cell BK330.out 7).trans rfl
        have hcz7_8 : w3.cell? ⟨gb330, 8, none⟩ = some (.int .i64 a0_8) := (blk_cell BK330.out 8).trans rfl
        have hcz7_9 : w3.cell? ⟨gb330, 9, none⟩ = some (.slice A0_9 l0_9.length c0_9) := (blk_cell BK330.out 9).trans rfl
        have hcz7_10 : w3.cell? ⟨gb330, 10, none⟩ = some (.int .i64 a0_10) := (blk_cell BK330.out 10).trans rfl
        have hcz7_11 : w3.cell? ⟨gb330, 11, none⟩ = some (.bool a0_11) := (blk_cell BK330.out 11).trans rfl
        have hfz7_0 := blk_frozen BK330.out 0
        have hfz7_1 := blk_frozen BK330.out 1
        have hfz7_2 := blk_frozen BK330.out 2
        have hfz7_3 := blk_frozen BK330.out 3
        have hfz7_4 := blk_frozen BK330.out 4
        have hfz7_5 := blk_frozen BK330.out 5
        have hfz7_6 := blk_frozen BK330.out 6
        have hfz7_7 := blk_frozen BK330.out 7
        have hfz7_8 := blk_frozen BK330.out 8
        have hfz7_9 := blk_frozen BK330.out 9
        have hfz7_10 := blk_frozen BK330.out 10
        have hfz7_11 := blk_frozen BK330.out 11
        go_wp2
        go_meet
        case rel => exact ⟨_, (decide ((l0_3.length : Int) > 0)), (by first | rfl | (simp; done) | (simp [*]; done)), H', ⟨by first | omega | exact Nat.le_refl _⟩, ⟨by (with_reducible repeat (first | refine blk_drewN ?_ _ | refine blk_drew ?_ | refine blk_alloc ?_ _)); exact BK330.out⟩, ⟨by repeat (first | (with_reducible first | exact HB.out | apply below_alloc | apply pw_below_drewN | apply below_drew1 | refine below_set ?_ GE330.out) | exact HB.out)⟩⟩
      · rw [if_neg c6] at H
        have c6b0 : (a0_1 == 0) = false := beq_eq_false_iff_ne.mpr c6
        have c6b1 : (a0_1 != 0) = true := bne_iff_ne.mpr c6
        by_cases c8 : (l0_2.length : Int) > 0
        · rw [if_pos c8] at H
          have c8b0 : decide (0 < (l0_2.length : Int)) = true := decide_eq_true c8
          have c8b1 : decide (0 < l0_2.length) = true := decide_eq_true (by omega)
          clear c8
          have H' := Aside0.mk H
          clear H
          have hcz9_0 : w3.cell? ⟨gb330, 0, none⟩ = some (.int .i64 a0_0) := (blk_cell BK330.out 0).trans rfl
          have hcz9_1 : w3.cell? ⟨gb330, 1, none⟩ = some (.int .i64 a0_1) := (blk_cell BK330.out 1).trans rfl
          have hcz9_2 : w3.cell? ⟨gb330, 2, none⟩ = some (.slice A0_2 l0_2.length c0_2) := (blk_cell BK330.out 2).trans rfl
          have hcz9_3 : w3.cell? ⟨gb330, 3, none⟩ = some (.slice A0_3 l0_3.length c0_3) := (blk_cell BK330.out 3).trans rfl
          have hcz9_4 : w3.cell? ⟨gb330, 4, none⟩ = some (.slice A0_4 l0_4.length c0_4) := (blk_cell BK330.out 4).trans rfl
          have hcz9_5 : w3.cell? ⟨gb330, 5, none⟩ = some (.int .i64 a0_5) := (blk_cell BK330.out 5).trans rfl
          have hcz9_6 : w3.cell? ⟨gb330, 6, none⟩ = some (.int .i64 a0_6) := (blk_cell BK330.out 6).trans rfl
          have hcz9_7 : w3.cell? ⟨gb330, 7, none⟩ = some (.int .i64 a0_7) := (blk_cell BK330.out 7).trans rfl
          have hcz9_8 : w3.cell? ⟨gb330, 8, none⟩ = some (.int .i64 a0_8) := (blk_cell BK330.out 8).trans rfl
          have hcz9_9 : w3.cell? ⟨gb330, 9, none⟩ = some (.slice A0_9 l0_9.length c0_9) := (blk_cell BK330.out 9).trans rfl
          have hcz9_10 : w3.cell? ⟨gb330, 10, none⟩ = some (.int .i64 a0_10) := (blk_cell BK330.out 10).trans rfl
          have hcz9_11 : w3.cell? ⟨gb330, 11, none⟩ = some (.bool a0_11) := (blk_cell BK330.out 11).trans rfl
          have hfz9_0 := blk_frozen BK330.out 0
          have hfz9_1 := blk_frozen BK330.out 1
          have hfz9_2 := blk_frozen BK330.out 2
          have hfz9_3 := blk_frozen BK330.out 3
          have hfz9_4 := blk_frozen BK330.out 4
          have hfz9_5 := blk_frozen BK330.out 5
          have hfz9_6 := blk_frozen BK330.out 6
          have hfz9_7 := blk_frozen BK330.out 7
          have hfz9_8 := blk_frozen BK330.out 8
          have hfz9_9 := blk_frozen BK330.out 9
          have hfz9_10 := blk_frozen BK330.out 10
          have hfz9_11 := blk_frozen BK330.out 11
          go_wp2
          go_meet
          case rel => exact ⟨_, (true), (by first | rfl | (simp; done) | (simp [*]; done)), H', ⟨by first | omega | exact Nat.le_refl _⟩, ⟨by (with_reducible repeat (first | refine blk_drewN ?_ _ | refine blk_drew ?_ | refine blk_alloc ?_ _)); exact BK330.out⟩, ⟨by repeat (first | (with_reducible first | exact HB.out | apply below_alloc | apply pw_below_drewN | apply below_drew1 | refine below_set ?_ GE330.out) | exact HB.out)⟩⟩
        · rw [if_neg c8] at H
          have c8b0 : decide (0 < (l0_2.length : Int)) = false := decide_eq_false c8
          have c8b1 : decide (0 < l0_2.length) = false := decide_eq_false (by omega)
          clear c8
          have H' := Aside0.mk H
          clear H
          have hcz10_0 : w3.cell? ⟨gb330, 0, none⟩ = some (.int .i64 a0_0) := (blk_cell BK330.out 0).trans rfl
          have hcz10_1 : w3.cell? ⟨gb330, 1, none⟩ = some (.int .i64 a0_1) := (blk_cell BK330.out 1).trans rfl
          have hcz10_2 : w3.cell? ⟨gb330, 2, none⟩ = some (.slice A0_2 l0_2.length c0_2) := (blk_cell BK330.out 2).trans rfl
          have hcz10_3 : w3.cell? ⟨gb330, 3, none⟩ = some (.slice A0_3 l0_3.length c0_3) := (blk_cell BK330.out 3).trans rfl
          have hcz10_4 : w3.cell? ⟨gb330, 4, none⟩ = some (.slice A0_4 l0_4.length c0_4) := (blk_cell BK330.out 4).trans rfl
          have hcz10_5 : w3.cell? ⟨gb330, 5, none⟩ = some (.int .i64 a0_5) := (blk_cell BK330.out 5).trans rfl
          have hcz10_6 : w3.cell? ⟨gb330, 6, none⟩ = some (.int .i64 a0_6) := (blk_cell BK330.out 6).trans rfl
          have hcz10_7 : w3.cell? ⟨gb330, 7, none⟩ = some (.int .i64 a0_7) := (blk_cell BK330.out 7).trans rfl
          have hcz10_8 : w3.cell? ⟨gb330, 8, none⟩ = some (.int .i64 a0_8) := (blk_cell BK330.out 8).trans rfl
          have hcz10_9 : w3.cell? ⟨gb330, 9, none⟩ = some (.slice A0_9 l0_9.length c0_9) := (blk_cell BK330.out 9).trans rfl
          have hcz10_10 : w3.cell? ⟨gb330, 10, none⟩ = some (.int .i64 a0_10) := (blk_cell BK330.out 10).trans rfl
          have hcz10_11 : w3.cell? ⟨gb330, 11, none⟩ = some (.bool a0_11) := (blk_cell BK330.out 11).trans rfl
          have hfz10_0 := blk_frozen BK330.out 0
          have hfz10_1 := blk_frozen BK330.out 1
          have hfz10_2 := blk_frozen BK330.out 2
          have hfz10_3 := blk_frozen BK330.out 3
          have hfz10_4 := blk_frozen BK330.out 4
          have hfz10_5 := blk_frozen BK330.out 5
          have hfz10_6 := blk_frozen BK330.out 6
          have hfz10_7 := blk_frozen BK330.out 7
          have hfz10_8 := blk_frozen BK330.out 8
          have hfz10_9 := blk_frozen BK330.out 9
          have hfz10_10 := blk_frozen BK330.out 10
          have hfz10_11 := blk_frozen BK330.out 11
          go_wp2
          go_meet
          case rel => exact ⟨_, (false), (by first | rfl | (simp; done) | (simp [*]; done)), H', ⟨by first | omega | exact Nat.le_refl _⟩, ⟨by (with_reducible repeat (first | refine blk_drewN ?_ _ | refine blk_drew ?_ | refine blk_alloc ?_ _)); exact BK330.out⟩, ⟨by repeat (first | (with_reducible first | exact HB.out | apply below_alloc | apply pw_below_drewN | apply below_drew1 | refine below_set ?_ GE330.out) | exact HB.out)⟩⟩
  case rest =>
    clear HC2
    try clear p2
    try clear c4
    try clear c4b0
    try clear c4b1
    try clear c6
    try clear c6b0
    try clear c6b1
    try clear c8
    try clear c8b0
    try clear c8b1
    try clear hcz10_0
    try clear hcz10_1
    try clear hcz10_10
    try clear hcz10_11
    try clear hcz10_2
    try clear hcz10_3
    try clear hcz10_4
    try clear hcz10_5
    try clear hcz10_6
    try clear hcz10_7
    try clear hcz10_8
    try clear hcz10_9
    try clear hcz5_0
    try clear hcz5_1
    try clear hcz5_10
    try clear hcz5_11
    try clear hcz5_2
    try clear hcz5_3
    try clear hcz5_4
    try clear hcz5_5
    try clear hcz5_6
    try clear hcz5_7
    try clear hcz5_8
    try clear hcz5_9
    try clear hcz7_0
    try clear hcz7_1
    try clear hcz7_10
    try clear hcz7_11
    try clear hcz7_2
    try clear hcz7_3
    try clear hcz7_4
    try clear hcz7_5
    try clear hcz7_6
    try clear hcz7_7
    try clear hcz7_8
    try clear hcz7_9
    try clear hcz9_0
    try clear hcz9_1
    try clear hcz9_10
    try clear hcz9_11
    try clear hcz9_2
    try clear hcz9_3
    try clear hcz9_4
    try clear hcz9_5
    try clear hcz9_6
    try clear hcz9_7
    try clear hcz9_8
    try clear hcz9_9
    try clear hfz10_0
    try clear hfz10_1
    try clear hfz10_10
    try clear hfz10_11
    try clear hfz10_2
    try clear hfz10_3
    try clear hfz10_4
    try clear hfz10_5
    try clear hfz10_6
    try clear hfz10_7
    try clear hfz10_8
    try clear hfz10_9
    try clear hfz5_0
    try clear hfz5_1
    try clear hfz5_10
    try clear hfz5_11
    try clear hfz5_2
    try clear hfz5_3
    try clear hfz5_4
    try clear hfz5_5
    try clear hfz5_6
    try clear hfz5_7
    try clear hfz5_8
    try clear hfz5_9
    try clear hfz7_0
    try clear hfz7_1
    try clear hfz7_10
    try clear hfz7_11
    try clear hfz7_2
    try clear hfz7_3
    try clear hfz7_4
    try clear hfz7_5
    try clear hfz7_6
    try clear hfz7_7
    try clear hfz7_8
    try clear hfz7_9
    try clear hfz9_0
    try clear hfz9_1
    try clear hfz9_10
    try clear hfz9_11
    try clear hfz9_2
    try clear hfz9_3
    try clear hfz9_4
    try clear hfz9_5
    try clear hfz9_6
    try clear hfz9_7
    try clear hfz9_8
    try clear hfz9_9
    obtain ⟨kq, x28_1, rfl, HA, HJ1, BK330, HB⟩ := hcut
    cases kq with
    | zero => exact absurd HA.out (by simp [dioramaref15_clean.j0])
    | succ kj1 =>
      have H := HA.out
      clear HA
      simp only [dioramaref15_clean.j0] at H
      by_cases c11 : x28_1 = true
      · subst c11
        have H1 : (some false) = some r := by rw [if_pos rfl] at H; exact H
        clear H
        have H := H1
        clear H1
        obtain rfl := Option.some.inj H
        go_wp2
        go_ret
        exact ⟨by first | rfl | (simp [errW_none, errW_some] <;> rfl) | (simp [*, errW_none, errW_some] <;> rfl), by repeat (first | (with_reducible first | exact HB.out | apply below_alloc | apply pw_below_drewN | apply below_drew1 | refine below_set ?_ GE330.out) | exact HB.out)⟩
      · replace c11 := Bool.eq_false_iff.mpr c11
        subst c11
        have H1 : (if a0_1 = 2 then (if a0_1 = 3 then (some true) else (if a0_5 = 0 then (if a0_6 = 0 then (some true) else (some false)) else (some false))) else (if (l0_4.length : Int) > 0 then (some false) else (if (l0_9.length : Int) > 0 then (some false) else (if a0_1 = 3 then (some true) else (if a0_5 = 0 then (if a0_6 = 0 then (if a0_7 = 0 then (some (a0_8 == 0)) else (some false)) else (some false)) else (some false)))))) = some r := by rw [if_neg (show ¬ (false = true) by decide)] at H; exact H
        clear H
        have H := H1
        clear H1
        by_cases c12 : a0_1 = 2
        · rw [if_pos c12] at H
          have c12b0 : (a0_1 == 2) = true := beq_iff_eq.mpr c12
          have c12b1 : (a0_1 != 2) = false := bne_eq_false_iff_eq.mpr c12
          clear c12
          by_cases c13 : a0_1 = 3
          · rw [if_pos c13] at H
            have c13b0 : (a0_1 == 3) = true := beq_iff_eq.mpr c13
            have c13b1 : (a0_1 != 3) = false := bne_eq_false_iff_eq.mpr c13
            clear c13
            obtain rfl := Option.some.inj H
            have hcz14_0 : wc.cell? ⟨gb330, 0, none⟩ = some (.int .i64 a0_0) := (blk_cell BK330.out 0).trans rfl
            have hcz14_1 : wc.cell? ⟨gb330, 1, none⟩ = some (.int .i64 a0_1) := (blk_cell BK330.out 1).trans rfl
            have hcz14_2 : wc.cell? ⟨gb330, 2, none⟩ = some (.slice A0_2 l0_2.length c0_2) := (blk_cell BK330.out 2).trans rfl
            have hcz14_3 : wc.cell? ⟨gb330, 3, none⟩ = some (.slice A0_3 l0_3.length c0_3) := (blk_cell BK330.out 3).trans rfl
            have hcz14_4 : wc.cell? ⟨gb330, 4, none⟩ = some (.slice A0_4 l0_4.length c0_4) := (blk_cell BK330.out 4).trans rfl
            have hcz14_5 : wc.cell? ⟨gb330, 5, none⟩ = some (.int .i64 a0_5) := (blk_cell BK330.out 5).trans rfl
            have hcz14_6 : wc.cell? ⟨gb330, 6, none⟩ = some (.int .i64 a0_6) := (blk_cell BK330.out 6).trans rfl
            have hcz14_7 : wc.cell? ⟨gb330, 7, none⟩ = some (.int .i64 a0_7) := (blk_cell BK330.out 7).trans rfl
            have hcz14_8 : wc.cell? ⟨gb330, 8, none⟩ = some (.int .i64 a0_8) := (blk_cell BK330.out 8).trans rfl
            have hcz14_9 : wc.cell? ⟨gb330, 9, none⟩ = some (.slice A0_9 l0_9.length c0_9) := (blk_cell BK330.out 9).trans rfl
            have hcz14_10 : wc.cell? ⟨gb330, 10, none⟩ = some (.int .i64 a0_10) := (blk_cell BK330.out 10).trans rfl
            have hcz14_11 : wc.cell? ⟨gb330, 11, none⟩ = some (.bool a0_11) := (blk_cell BK330.out 11).trans rfl
            have hfz14_0 := blk_frozen BK330.out 0
            have hfz14_1 := blk_frozen BK330.out 1
            have hfz14_2 := blk_frozen BK330.out 2
            have hfz14_3 := blk_frozen BK330.out 3
            have hfz14_4 := blk_frozen BK330.out 4
            have hfz14_5 := blk_frozen BK330.out 5
            have hfz14_6 := blk_frozen BK330.out 6
            have hfz14_7 := blk_frozen BK330.out 7
            have hfz14_8 := blk_frozen BK330.out 8
            have hfz14_9 := blk_frozen BK330.out 9
            have hfz14_10 := blk_frozen BK330.out 10
            have hfz14_11 := blk_frozen BK330.out 11
            go_wp2
            go_ret
            exact ⟨by first | rfl | (simp [errW_none, errW_some] <;> rfl) | (simp [*, errW_none, errW_some] <;> rfl), by repeat (first | (with_reducible first | exact HB.out | apply below_alloc | apply pw_below_drewN | apply below_drew1 | refine below_set ?_ GE330.out) | exact HB.out)⟩
          · rw [if_neg c13] at H
            have c13b0 : (a0_1 == 3) = false := beq_eq_false_iff_ne.mpr c13
            have c13b1 : (a0_1 != 3) = true := bne_iff_ne.mpr c13
            by_cases c15 : a0_5 = 0
            · rw [if_pos c15] at H
              have c15b0 : (a0_5 == 0) = true := beq_iff_eq.mpr c15
              have c15b1 : (a0_5 != 0) = false := bne_eq_false_iff_eq.mpr c15
              clear c15
              by_cases c16 : a0_6 = 0
              · rw [if_pos c16] at H
                have c16b0 : (a0_6 == 0) = true := beq_iff_eq.mpr c16
                have c16b1 : (a0_6 != 0) = false := bne_eq_false_iff_eq.mpr c16
                clear c16
                obtain rfl := Option.some.inj H
                have hcz17_0 : wc.cell? ⟨gb330, 0, none⟩ = some (.int .i64 a0_0) := (blk_cell BK330.out 0).trans rfl
                have hcz17_1 : wc.cell? ⟨gb330, 1, none⟩ = some (.int .i64 a0_1) := (blk_cell BK330.out 1).trans rfl
                have hcz17_2 : wc.cell? ⟨gb330, 2, none⟩ = some (.slice A0_2 l0_2.length c0_2) := (blk_cell BK330.out 2).trans rfl
                have hcz17_3 : wc.cell? ⟨gb330, 3, none⟩ = some (.slice A0_3 l0_3.length c0_3) := (blk_cell BK330.out 3).trans rfl
                have hcz17_4 : wc.cell? ⟨gb330, 4, none⟩ = some (.slice A0_4 l0_4.length c0_4) := (blk_cell BK330.out 4).trans rfl
                have hcz17_5 : wc.cell? ⟨gb330, 5, none⟩ = some (.int .i64 a0_5) := (blk_cell BK330.out 5).trans rfl
                have hcz17_6 : wc.cell? ⟨gb330, 6, none⟩ = some (.int .i64 a0_6) := (blk_cell BK330.out 6).trans rfl
                have hcz17_7 : wc.cell? ⟨gb330, 7, none⟩ = some (.int .i64 a0_7) := (blk_cell BK330.out 7).trans rfl
                have hcz17_8 : wc.cell? ⟨gb330, 8, none⟩ = some (.int .i64 a0_8) := (blk_cell BK330.out 8).trans rfl
                have hcz17_9 : wc.cell? ⟨gb330, 9, none⟩ = some (.slice A0_9 l0_9.length c0_9) := (blk_cell BK330.out 9).trans rfl
                have hcz17_10 : wc.cell? ⟨gb330, 10, none⟩ = some (.int .i64 a0_10) := (blk_cell BK330.out 10).trans rfl
                have hcz17_11 : wc.cell? ⟨gb330, 11, none⟩ = some (.bool a0_11) := (blk_cell BK330.out 11).trans rfl
                have hfz17_0 := blk_frozen BK330.out 0
                have hfz17_1 := blk_frozen BK330.out 1
                have hfz17_2 := blk_frozen BK330.out 2
                have hfz17_3 := blk_frozen BK330.out 3
                have hfz17_4 := blk_frozen BK330.out 4
                have hfz17_5 := blk_frozen BK330.out 5
                have hfz17_6 := blk_frozen BK330.out 6
                have hfz17_7 := blk_frozen BK330.out 7
                have hfz17_8 := blk_frozen BK330.out 8
                have hfz17_9 := blk_frozen BK330.out 9
                have hfz17_10 := blk_frozen BK330.out 10
                have hfz17_11 := blk_frozen BK330.out 11
                go_wp2
                go_ret
                exact ⟨by first | rfl | (simp [errW_none, errW_some] <;> rfl) | (simp [*, errW_none, errW_some] <;> rfl), by repeat (first | (with_reducible first | exact HB.out | apply below_alloc | apply pw_below_drewN | apply below_drew1 | refine below_set ?_ GE330.out) | exact HB.out)⟩
              · rw [if_neg c16] at H
                have c16b0 : (a0_6 == 0) = false := beq_eq_false_iff_ne.mpr c16
                have c16b1 : (a0_6 != 0) = true := bne_iff_ne.mpr c16
                obtain rfl := Option.some.inj H
                have hcz18_0 : wc.cell? ⟨gb330, 0, none⟩ = some (.int .i64 a0_0) := (blk_cell BK330.out 0).trans rfl
                have hcz18_1 : wc.cell? ⟨gb330, 1, none⟩ = some (.int .i64 a0_1) := (blk_cell BK330.out 1).trans rfl
                have hcz18_2 : wc.cell? ⟨gb330, 2, none⟩ = some (.slice A0_2 l0_2.length c0_2) := (blk_cell BK330.out 2).trans rfl
                have hcz18_3 : wc.cell? ⟨gb330, 3, none⟩ = some (.slice A0_3 l0_3.length c0_3) := (blk_cell BK330.out 3).trans rfl
                have hcz18_4 : wc.cell? ⟨gb330, 4, none⟩ = some (.slice A0_4 l0_4.length c0_4) := (blk_cell BK330.out 4).trans rfl
                have hcz18_5 : wc.cell? ⟨gb330, 5, none⟩ = some (.int .i64 a0_5) := (blk_cell BK330.out 5).trans rfl
                have hcz18_6 : wc.cell? ⟨gb330, 6, none⟩ = some (.int .i64 a0_6) := (blk_cell BK330.out 6).trans rfl
                have hcz18_7 : wc.cell? ⟨gb330, 7, none⟩ = some (.int .i64 a0_7) := (blk_cell BK330.out 7).trans rfl
                have hcz18_8 : wc.cell? ⟨gb330, 8, none⟩ = some (.int .i64 a0_8) := (blk_cell BK330.out 8).trans rfl
                have hcz18_9 : wc.cell? ⟨gb330, 9, none⟩ = some (.slice A0_9 l0_9.length c0_9) := (blk_cell BK330.out 9).trans rfl
                have hcz18_10 : wc.cell? ⟨gb330, 10, none⟩ = some (.int .i64 a0_10) := (blk_cell BK330.out 10).trans rfl
                have hcz18_11 : wc.cell? ⟨gb330, 11, none⟩ = some (.bool a0_11) := (blk_cell BK330.out 11).trans rfl
                have hfz18_0 := blk_frozen BK330.out 0
                have hfz18_1 := blk_frozen BK330.out 1
                have hfz18_2 := blk_frozen BK330.out 2
                have hfz18_3 := blk_frozen BK330.out 3
                have hfz18_4 := blk_frozen BK330.out 4
                have hfz18_5 := blk_frozen BK330.out 5
                have hfz18_6 := blk_frozen BK330.out 6
                have hfz18_7 := blk_frozen BK330.out 7
                have hfz18_8 := blk_frozen BK330.out 8
                have hfz18_9 := blk_frozen BK330.out 9
                have hfz18_10 := blk_frozen BK330.out 10
                have hfz18_11 := blk_frozen BK330.out 11
                go_wp2
                go_ret
                exact ⟨by first | rfl | (simp [errW_none, errW_some] <;> rfl) | (simp [*, errW_none, errW_some] <;> rfl), by repeat (first | (with_reducible first | exact HB.out | apply below_alloc | apply pw_below_drewN | apply below_drew1 | refine below_set ?_ GE330.out) | exact HB.out)⟩
            · rw [if_neg c15] at H
              have c15b0 : (a0_5 == 0) = false := beq_eq_false_iff_ne.mpr c15
              have c15b1 : (a0_5 != 0) = true := bne_iff_ne.mpr c15
              obtain rfl := Option.some.inj H
              have hcz19_0 : wc.cell? ⟨gb330, 0, none⟩ = some (.int .i64 a0_0) := (blk_cell BK330.out 0).trans rfl
              have hcz19_1 : wc.cell? ⟨gb330, 1, none⟩ = some (.int .i64 a0_1) := (blk_cell BK330.out 1).trans rfl
              have hcz19_2 : wc.cell? ⟨gb330, 2, none⟩ = some (.slice A0_2 l0_2.length c0_2) := (blk_cell BK330.out 2).trans rfl
              have hcz19_3 : wc.cell? ⟨gb330, 3, none⟩ = some (.slice A0_3 l0_3.length c0_3) := (blk_cell BK330.out 3).trans rfl
              have hcz19_4 : wc.cell? ⟨gb330, 4, none⟩ = some (.slice A0_4 l0_4.length c0_4) := (blk_cell BK330.out 4).trans rfl
              have hcz19_5 : wc.cell? ⟨gb330, 5, none⟩ = some (.int .i64 a0_5) := (blk_cell BK330.out 5).trans rfl
              have hcz19_6 : wc.cell? ⟨gb330, 6, none⟩ = some (.int .i64 a0_6) := (blk_cell BK330.out 6).trans rfl
              have hcz19_7 : wc.cell? ⟨gb330, 7, none⟩ = some (.int .i64 a0_7) := (blk_cell BK330.out 7).trans rfl
              have hcz19_8 : wc.cell? ⟨gb330, 8, none⟩ = some (.int .i64 a0_8) := (blk_cell BK330.out 8).trans rfl
              have hcz19_9 : wc.cell? ⟨gb330, 9, none⟩ = some (.slice A0_9 l0_9.length c0_9) := (blk_cell BK330.out 9).trans rfl
              have hcz19_10 : wc.cell? ⟨gb330, 10, none⟩ = some (.int .i64 a0_10) := (blk_cell BK330.out 10).trans rfl
              have hcz19_11 : wc.cell? ⟨gb330, 11, none⟩ = some (.bool a0_11) := (blk_cell BK330.out 11).trans rfl
              have hfz19_0 := blk_frozen BK330.out 0
              have hfz19_1 := blk_frozen BK330.out 1
              have hfz19_2 := blk_frozen BK330.out 2
              have hfz19_3 := blk_frozen BK330.out 3
              have hfz19_4 := blk_frozen BK330.out 4
              have hfz19_5 := blk_frozen BK330.out 5
              have hfz19_6 := blk_frozen BK330.out 6
              have hfz19_7 := blk_frozen BK330.out 7
              have hfz19_8 := blk_frozen BK330.out 8
              have hfz19_9 := blk_frozen BK330.out 9
              have hfz19_10 := blk_frozen BK330.out 10
              have hfz19_11 := blk_frozen BK330.out 11
              go_wp2
              go_ret
              exact ⟨by first | rfl | (simp [errW_none, errW_some] <;> rfl) | (simp [*, errW_none, errW_some] <;> rfl), by repeat (first | (with_reducible first | exact HB.out | apply below_alloc | apply pw_below_drewN | apply below_drew1 | refine below_set ?_ GE330.out) | exact HB.out)⟩
        · rw [if_neg c12] at H
          have c12b0 : (a0_1 == 2) = false := beq_eq_false_iff_ne.mpr c12
          have c12b1 : (a0_1 != 2) = true := bne_iff_ne.mpr c12
          by_cases c20 : (l0_4.length : Int) > 0
          · rw [if_pos c20] at H
            have c20b0 : decide (0 < (l0_4.length : Int)) = true := decide_eq_true c20
            have c20b1 : decide (0 < l0_4.length) = true := decide_eq_true (by omega)
            clear c20
            obtain rfl := Option.some.inj H
            have hcz21_0 : wc.cell? ⟨gb330, 0, none⟩ = some (.int .i64 a0_0) := (blk_cell BK330.out 0).trans rfl
            have hcz21_1 : wc.cell? ⟨gb330, 1, none⟩ = some (.int .i64 a0_1) := (blk_cell BK330.out 1).trans rfl
            have hcz21_2 : wc.cell? ⟨gb330, 2, none⟩ = some (.slice A0_2 l0_2.length c0_2) := (blk_cell BK330.out 2).trans rfl
            have hcz21_3 : wc.cell? ⟨gb330, 3, none⟩ = some (.slice A0_3 l0_3.length c0_3) := (blk_cell BK330.out 3).trans rfl
            have hcz21_4 : wc.cell? ⟨gb330, 4, none⟩ = some (.slice A0_4 l0_4.length c0_4) := (blk_cell BK330.out 4).trans rfl
            have hcz21_5 : wc.cell? ⟨gb330, 5, none⟩ = some (.int .i64 a0_5) := (blk_cell BK330.out 5).trans rfl
            have hcz21_6 : wc.cell? ⟨gb330, 6, none⟩ = some (.int .i64 a0_6) := (blk_cell BK330.out 6).trans rfl
            have hcz21_7 : wc.cell? ⟨gb330, 7, none⟩ = some (.int .i64 a0_7) := (blk_cell BK330.out 7).trans rfl
            have hcz21_8 : wc.cell? ⟨gb330, 8, none⟩ = some (.int .i64 a0_8) := (blk_cell BK330.out 8).trans rfl
            have hcz21_9 : wc.cell? ⟨gb330, 9, none⟩ = some (.slice A0_9 l0_9.length c0_9) := (blk_cell BK330.out 9).trans rfl
            have hcz21_10 : wc.cell? ⟨gb330, 10, none⟩ = some (.int .i64 a0_10) := (blk_cell BK330.out 10).trans rfl
            have hcz21_11 : wc.cell? ⟨gb330, 11, none⟩ = some (.bool a0_11) := (blk_cell BK330.out 11).trans rfl
            have hfz21_0 := blk_frozen BK330.out 0
            have hfz21_1 := blk_frozen BK330.out 1
            have hfz21_2 := blk_frozen BK330.out 2
            have hfz21_3 := blk_frozen BK330.out 3
            have hfz21_4 := blk_frozen BK330.out 4
            have hfz21_5 := blk_frozen BK330.out 5
            have hfz21_6 := blk_frozen BK330.out 6
            have hfz21_7 := blk_frozen BK330.out 7
            have hfz21_8 := blk_frozen BK330.out 8
            have hfz21_9 := blk_frozen BK330.out 9
            have hfz21_10 := blk_frozen BK330.out 10
            have hfz21_11 := blk_frozen BK330.out 11
            go_wp2
            go_ret
            exact ⟨by first | rfl | (simp [errW_none, errW_some] <;> rfl) | (simp [*, errW_none, errW_some] <;> rfl), by repeat (first | (with_reducible first | exact HB.out | apply below_alloc | apply pw_below_drewN | apply below_drew1 | refine below_set ?_ GE330.out) | exact HB.out)⟩
          · rw [if_neg c20] at H
            have c20b0 : decide (0 < (l0_4.length : Int)) = false := decide_eq_false c20
            have c20b1 : decide (0 < l0_4.length) = false := decide_eq_false (by omega)
            clear c20
            by_cases c22 : (l0_9.length : Int) > 0
            · rw [if_pos c22] at H
              have c22b0 : decide (0 < (l0_9.length : Int)) = true := decide_eq_true c22
              have c22b1 : decide (0 < l0_9.length) = true := decide_eq_true (by omega)
              clear c22
              obtain rfl := Option.some.inj H
              have hcz23_0 : wc.cell? ⟨gb330, 0, none⟩ = some (.int .i64 a0_0) := (blk_cell BK330.out 0).trans rfl
              have hcz23_1 : wc.cell? ⟨gb330, 1, none⟩ = some (.int .i64 a0_1) := (blk_cell BK330.out 1).trans rfl
              have hcz23_2 : wc.cell? ⟨gb330, 2, none⟩ = some (.slice A0_2 l0_2.length c0_2) := (blk_cell BK330.out 2).trans rfl
              have hcz23_3 : wc.cell? ⟨gb330, 3, none⟩ = some (.slice A0_3 l0_3.length c0_3) := (blk_cell BK330.out 3).trans rfl
              have hcz23_4 : wc.cell? ⟨gb330, 4, none⟩ = some (.slice A0_4 l0_4.length c0_4) := (blk_cell BK330.out 4).trans rfl
              have hcz23_5 : wc.cell? ⟨gb330, 5, none⟩ = some (.int .i64 a0_5) := (blk_cell BK330.out 5).trans rfl
              have hcz23_6 : wc.cell? ⟨gb330, 6, none⟩ = some (.int .i64 a0_6) := (blk_cell BK330.out 6).trans rfl
              have hcz23_7 : wc.cell? ⟨gb330, 7, none⟩ = some (.int .i64 a0_7) := (blk_cell BK330.out 7).trans rfl
              have hcz23_8 : wc.cell? ⟨gb330, 8, none⟩ = some (.int .i64 a0_8) := (blk_cell BK330.out 8).trans rfl
              have hcz23_9 : wc.cell? ⟨gb330, 9, none⟩ = some (.slice A0_9 l0_9.length c0_9) := (blk_cell BK330.out 9).trans rfl
              have hcz23_10 : wc.cell? ⟨gb330, 10, none⟩ = some (.int .i64 a0_10) := (blk_cell BK330.out 10).trans rfl
              have hcz23_11 : wc.cell? ⟨gb330, 11, none⟩ = some (.bool a0_11) := (blk_cell BK330.out 11).trans rfl
              have hfz23_0 := blk_frozen BK330.out 0
              have hfz23_1 := blk_frozen BK330.out 1
              have hfz23_2 := blk_frozen BK330.out 2
              have hfz23_3 := blk_frozen BK330.out 3
              have hfz23_4 := blk_frozen BK330.out 4
              have hfz23_5 := blk_frozen BK330.out 5
              have hfz23_6 := blk_frozen BK330.out 6
              have hfz23_7 := blk_frozen BK330.out 7
              have hfz23_8 := blk_frozen BK330.out 8
              have hfz23_9 := blk_frozen BK330.out 9
              have hfz23_10 := blk_frozen BK330.out 10
              have hfz23_11 := blk_frozen BK330.out 11
              go_wp2
              go_ret
              exact ⟨by first | rfl | (simp [errW_none, errW_some] <;> rfl) | (simp [*, errW_none, errW_some] <;> rfl), by repeat (first | (with_reducible first | exact HB.out | apply below_alloc | apply pw_below_drewN | apply below_drew1 | refine below_set ?_ GE330.out) | exact HB.out)⟩
            · rw [if_neg c22] at H
              have c22b0 : decide (0 < (l0_9.length : Int)) = false := decide_eq_false c22
              have c22b1 : decide (0 < l0_9.length) = false := decide_eq_false (by omega)
              clear c22
              by_cases c24 : a0_1 = 3
              · rw [if_pos c24] at H
                have c24b0 : (a0_1 == 3) = true := beq_iff_eq.mpr c24
                have c24b1 : (a0_1 != 3) = false := bne_eq_false_iff_eq.mpr c24
                clear c24
                obtain rfl := Option.some.inj H
                have hcz25_0 : wc.cell? ⟨gb330, 0, none⟩ = some (.int .i64 a0_0) := (blk_cell BK330.out 0).trans rfl
                have hcz25_1 : wc.cell? ⟨gb330, 1, none⟩ = some (.int .i64 a0_1) := (blk_cell BK330.out 1).trans rfl
                have hcz25_2 : wc.cell? ⟨gb330, 2, none⟩ = some (.slice A0_2 l0_2.length c0_2) := (blk_cell BK330.out 2).trans rfl
                have hcz25_3 : wc.cell? ⟨gb330, 3, none⟩ = some (.slice A0_3 l0_3.length c0_3) := (blk_cell BK330.out 3).trans rfl
                have hcz25_4 : wc.cell? ⟨gb330, 4, none⟩ = some (.slice A0_4 l0_4.length c0_4) := (blk_cell BK330.out 4).trans rfl
                have hcz25_5 : wc.cell? ⟨gb330, 5, none⟩ = some (.int .i64 a0_5) := (blk_cell BK330.out 5).trans rfl
                have hcz25_6 : wc.cell? ⟨gb330, 6, none⟩ = some (.int .i64 a0_6) := (blk_cell BK330.out 6).trans rfl
                have hcz25_7 : wc.cell? ⟨gb330, 7, none⟩ = some (.int .i64 a0_7) := (blk_cell BK330.out 7).trans rfl
                have hcz25_8 : wc.cell? ⟨gb330, 8, none⟩ = some (.int .i64 a0_8) := (blk_cell BK330.out 8).trans rfl
                have hcz25_9 : wc.cell? ⟨gb330, 9, none⟩ = some (.slice A0_9 l0_9.length c0_9) := (blk_cell BK330.out 9).trans rfl
                have hcz25_10 : wc.cell? ⟨gb330, 10, none⟩ = some (.int .i64 a0_10) := (blk_cell BK330.out 10).trans rfl
                have hcz25_11 : wc.cell? ⟨gb330, 11, none⟩ = some (.bool a0_11) := (blk_cell BK330.out 11).trans rfl
                have hfz25_0 := blk_frozen BK330.out 0
                have hfz25_1 := blk_frozen BK330.out 1
                have hfz25_2 := blk_frozen BK330.out 2
                have hfz25_3 := blk_frozen BK330.out 3
                have hfz25_4 := blk_frozen BK330.out 4
                have hfz25_5 := blk_frozen BK330.out 5
                have hfz25_6 := blk_frozen BK330.out 6
                have hfz25_7 := blk_frozen BK330.out 7
                have hfz25_8 := blk_frozen BK330.out 8
                have hfz25_9 := blk_frozen BK330.out 9
                have hfz25_10 := blk_frozen BK330.out 10
                have hfz25_11 := blk_frozen BK330.out 11
                go_wp2
                go_ret
                exact ⟨by first | rfl | (simp [errW_none, errW_some] <;> rfl) | (simp [*, errW_none, errW_some] <;> rfl), by repeat (first | (with_reducible first | exact HB.out | apply below_alloc | apply pw_below_drewN | apply below_drew1 | refine below_set ?_ GE330.out) | exact HB.out)⟩
              · rw [if_neg c24] at H
                have c24b0 : (a0_1 == 3) = false := beq_eq_false_iff_ne.mpr c24
                have c24b1 : (a0_1 != 3) = true := bne_iff_ne.mpr c24
                by_cases c26 : a0_5 = 0
                · rw [if_pos c26] at H
                  have c26b0 : (a0_5 == 0) = true := beq_iff_eq.mpr c26
                  have c26b1 : (a0_5 != 0) = false := bne_eq_false_iff_eq.mpr c26
                  clear c26
                  by_cases c27 : a0_6 = 0
                  · rw [if_pos c27] at H
                    have c27b0 : (a0_6 == 0) = true := beq_iff_eq.mpr c27
                    have c27b1 : (a0_6 != 0) = false := bne_eq_false_iff_eq.mpr c27
                    clear c27
                    by_cases c28 : a0_7 = 0
                    · rw [if_pos c28] at H
                      have c28b0 : (a0_7 == 0) = true := beq_iff_eq.mpr c28
                      have c28b1 : (a0_7 != 0) = false := bne_eq_false_iff_eq.mpr c28
                      clear c28
                      obtain rfl := Option.some.inj H
                      have hcz29_0 : wc.cell? ⟨gb330, 0, none⟩ = some (.int .i64 a0_0) := (blk_cell BK330.out 0).trans rfl
                      have hcz29_1 : wc.cell? ⟨gb330, 1, none⟩ = some (.int .i64 a0_1) := (blk_cell BK330.out 1).trans rfl
                      have hcz29_2 : wc.cell? ⟨gb330, 2, none⟩ = some (.slice A0_2 l0_2.length c0_2) := (blk_cell BK330.out 2).trans rfl
                      have hcz29_3 : wc.cell? ⟨gb330, 3, none⟩ = some (.slice A0_3 l0_3.length c0_3) := (blk_cell BK330.out 3).trans rfl
                      have hcz29_4 : wc.cell? ⟨gb330, 4, none⟩ = some (.slice A0_4 l0_4.length c0_4) := (blk_cell BK330.out 4).trans rfl
                      have hcz29_5 : wc.cell? ⟨gb330, 5, none⟩ = some (.int .i64 a0_5) := (blk_cell BK330.out 5).trans rfl
                      have hcz29_6 : wc.cell? ⟨gb330, 6, none⟩ = some (.int .i64 a0_6) := (blk_cell BK330.out 6).trans rfl
                      have hcz29_7 : wc.cell? ⟨gb330, 7, none⟩ = some (.int .i64 a0_7) := (blk_cell BK330.out 7).trans rfl
                      have hcz29_8 : wc.cell? ⟨gb330, 8, none⟩ = some (.int .i64 a0_8) := (blk_cell BK330.out 8).trans rfl
                      have hcz29_9 : wc.cell? ⟨gb330, 9, none⟩ = some (.slice A0_9 l0_9.length c0_9) := (blk_cell BK330.out 9).trans rfl
                      have hcz29_10 : wc.cell? ⟨gb330, 10, none⟩ = some (.int .i64 a0_10) := (blk_cell BK330.out 10).trans rfl
                      have hcz29_11 : wc.cell? ⟨gb330, 11, none⟩ = some (.bool a0_11) := (blk_cell BK330.out 11).trans rfl
                      have hfz29_0 := blk_frozen BK330.out 0
                      have hfz29_1 := blk_frozen BK330.out 1
                      have hfz29_2 := blk_frozen BK330.out 2
                      have hfz29_3 := blk_frozen BK330.out 3
                      have hfz29_4 := blk_frozen BK330.out 4
                      have hfz29_5 := blk_frozen BK330.out 5
                      have hfz29_6 := blk_frozen BK330.out 6
                      have hfz29_7 := blk_frozen BK330.out 7
                      have hfz29_8 := blk_frozen BK330.out 8
                      have hfz29_9 := blk_frozen BK330.out 9
                      have hfz29_10 := blk_frozen BK330.out 10
                      have hfz29_11 := blk_frozen BK330.out 11
                      go_wp2
                      go_ret
                      exact ⟨by first | rfl | (simp [errW_none, errW_some] <;> rfl) | (simp [*, errW_none, errW_some] <;> rfl), by repeat (first | (with_reducible first | exact HB.out | apply below_alloc | apply pw_below_drewN | apply below_drew1 | refine below_set ?_ GE330.out) | exact HB.out)⟩
                    · rw [if_neg c28] at H
                      have c28b0 : (a0_7 == 0) = false := beq_eq_false_iff_ne.mpr c28
                      have c28b1 : (a0_7 != 0) = true := bne_iff_ne.mpr c28
                      obtain rfl := Option.some.inj H
                      have hcz30_0 : wc.cell? ⟨gb330, 0, none⟩ = some (.int .i64 a0_0) := (blk_cell BK330.out 0).trans rfl
                      have hcz30_1 : wc.cell? ⟨gb330, 1, none⟩ = some (.int .i64 a0_1) := (blk_cell BK330.out 1).trans rfl
                      have hcz30_2 : wc.cell? ⟨gb330, 2, none⟩ = some (.slice A0_2 l0_2.length c0_2) := (blk_cell BK330.out 2).trans rfl
                      have hcz30_3 : wc.cell? ⟨gb330, 3, none⟩ = some (.slice A0_3 l0_3.length c0_3) := (blk_cell BK330.out 3).trans rfl
                      have hcz30_4 : wc.cell? ⟨gb330, 4, none⟩ = some (.slice A0_4 l0_4.length c0_4) := (blk_cell BK330.out 4).trans rfl
                      have hcz30_5 : wc.cell? ⟨gb330, 5, none⟩ = some (.int .i64 a0_5) := (blk_cell BK330.out 5).trans rfl
                      have hcz30_6 : wc.cell? ⟨gb330, 6, none⟩ = some (.int .i64 a0_6) := (blk_cell BK330.out 6).trans rfl
                      have hcz30_7 : wc.cell? ⟨gb330, 7, none⟩ = some (.int .i64 a0_7) := (blk_cell BK330.out 7).trans rfl
                      have hcz30_8 : wc.cell? ⟨gb330, 8, none⟩ = some (.int .i64 a0_8) := (blk_cell BK330.out 8).trans rfl
                      have hcz30_9 : wc.cell? ⟨gb330, 9, none⟩ = some (.slice A0_9 l0_9.length c0_9) := (blk_cell BK330.out 9).trans rfl
                      have hcz30_10 : wc.cell? ⟨gb330, 10, none⟩ = some (.int .i64 a0_10) := (blk_cell BK330.out 10).trans rfl
                      have hcz30_11 : wc.cell? ⟨gb330, 11, none⟩ = some (.bool a0_11) := (blk_cell BK330.out 11).trans rfl
                      have hfz30_0 := blk_frozen BK330.out 0
                      have hfz30_1 := blk_frozen BK330.out 1
                      have hfz30_2 := blk_frozen BK330.out 2
                      have hfz30_3 := blk_frozen BK330.out 3
                      have hfz30_4 := blk_frozen BK330.out 4
                      have hfz30_5 := blk_frozen BK330.out 5
                      have hfz30_6 := blk_frozen BK330.out 6
                      have hfz30_7 := blk_frozen BK330.out 7
                      have hfz30_8 := blk_frozen BK330.out 8
                      have hfz30_9 := blk_frozen BK330.out 9
                      have hfz30_10 := blk_frozen BK330.out 10
                      have hfz30_11 := blk_frozen BK330.out 11
                      go_wp2
                      go_ret
                      exact ⟨by first | rfl | (simp [errW_none, errW_some] <;> rfl) | (simp [*, errW_none, errW_some] <;> rfl), by repeat (first | (with_reducible first | exact HB.out | apply below_alloc | apply pw_below_drewN | apply below_drew1 | refine below_set ?_ GE330.out) | exact HB.out)⟩
                  · rw [if_neg c27] at H
                    have c27b0 : (a0_6 == 0) = false := beq_eq_false_iff_ne.mpr c27
                    have c27b1 : (a0_6 != 0) = true := bne_iff_ne.mpr c27
                    obtain rfl := Option.some.inj H
                    have hcz31_0 : wc.cell? ⟨gb330, 0, none⟩ = some (.int .i64 a0_0) := (blk_cell BK330.out 0).trans rfl
                    have hcz31_1 : wc.cell? ⟨gb330, 1, none⟩ = some (.int .i64 a0_1) := (blk_cell BK330.out 1).trans rfl
                    have hcz31_2 : wc.cell? ⟨gb330, 2, none⟩ = some (.slice A0_2 l0_2.length c0_2) := (blk_cell BK330.out 2).trans rfl
                    have hcz31_3 : wc.cell? ⟨gb330, 3, none⟩ = some (.slice A0_3 l0_3.length c0_3) := (blk_cell BK330.out 3).trans rfl
                    have hcz31_4 : wc.cell? ⟨gb330, 4, none⟩ = some (.slice A0_4 l0_4.length c0_4) := (blk_cell BK330.out 4).trans rfl
                    have hcz31_5 : wc.cell? ⟨gb330, 5, none⟩ = some (.int .i64 a0_5) := (blk_cell BK330.out 5).trans rfl
                    have hcz31_6 : wc.cell? ⟨gb330, 6, none⟩ = some (.int .i64 a0_6) := (blk_cell BK330.out 6).trans rfl
                    have hcz31_7 : wc.cell? ⟨gb330, 7, none⟩ = some (.int .i64 a0_7) := (blk_cell BK330.out 7).trans rfl
                    have hcz31_8 : wc.cell? ⟨gb330, 8, none⟩ = some (.int .i64 a0_8) := (blk_cell BK330.out 8).trans rfl
                    have hcz31_9 : wc.cell? ⟨gb330, 9, none⟩ = some (.slice A0_9 l0_9.length c0_9) := (blk_cell BK330.out 9).trans rfl
                    have hcz31_10 : wc.cell? ⟨gb330, 10, none⟩ = some (.int .i64 a0_10) := (blk_cell BK330.out 10).trans rfl
                    have hcz31_11 : wc.cell? ⟨gb330, 11, none⟩ = some (.bool a0_11) := (blk_cell BK330.out 11).trans rfl
                    have hfz31_0 := blk_frozen BK330.out 0
                    have hfz31_1 := blk_frozen BK330.out 1
                    have hfz31_2 := blk_frozen BK330.out 2
                    have hfz31_3 := blk_frozen BK330.out 3
                    have hfz31_4 := blk_frozen BK330.out 4
                    have hfz31_5 := blk_frozen BK330.out 5
                    have hfz31_6 := blk_frozen BK330.out 6
                    have hfz31_7 := blk_frozen BK330.out 7
                    have hfz31_8 := blk_frozen BK330.out 8
                    have hfz31_9 := blk_frozen BK330.out 9
                    have hfz31_10 := blk_frozen BK330.out 10
                    have hfz31_11 := blk_frozen BK330.out 11
                    go_wp2
                    go_ret
                    exact ⟨by first | rfl | (simp [errW_none, errW_some] <;> rfl) | (simp [*, errW_none, errW_some] <;> rfl), by repeat (first | (with_reducible first | exact HB.out | apply below_alloc | apply pw_below_drewN | apply below_drew1 | refine below_set ?_ GE330.out) | exact HB.out)⟩
                · rw [if_neg c26] at H
                  have c26b0 : (a0_5 == 0) = false := beq_eq_false_iff_ne.mpr c26
                  have c26b1 : (a0_5 != 0) = true := bne_iff_ne.mpr c26
                  obtain rfl := Option.some.inj H
                  have hcz32_0 : wc.cell? ⟨gb330, 0, none⟩ = some (.int .i64 a0_0) := (blk_cell BK330.out 0).trans rfl
                  have hcz32_1 : wc.cell? ⟨gb330, 1, none⟩ = some (.int .i64 a0_1) := (blk_cell BK330.out 1).trans rfl
                  have hcz32_2 : wc.cell? ⟨gb330, 2, none⟩ = some (.slice A0_2 l0_2.length c0_2) := (blk_cell BK330.out 2).trans rfl
                  have hcz32_3 : wc.cell? ⟨gb330, 3, none⟩ = some (.slice A0_3 l0_3.length c0_3) := (blk_cell BK330.out 3).trans rfl
                  have hcz32_4 : wc.cell? ⟨gb330, 4, none⟩ = some (.slice A0_4 l0_4.length c0_4) := (blk_cell BK330.out 4).trans rfl
                  have hcz32_5 : wc.cell? ⟨gb330, 5, none⟩ = some (.int .i64 a0_5) := (blk_cell BK330.out 5).trans rfl
                  have hcz32_6 : wc.cell? ⟨gb330, 6, none⟩ = some (.int .i64 a0_6) := (blk_cell BK330.out 6).trans rfl
                  have hcz32_7 : wc.cell? ⟨gb330, 7, none⟩ = some (.int .i64 a0_7) := (blk_cell BK330.out 7).trans rfl
                  have hcz32_8 : wc.cell? ⟨gb330, 8, none⟩ = some (.int .i64 a0_8) := (blk_cell BK330.out 8).trans rfl
                  have hcz32_9 : wc.cell? ⟨gb330, 9, none⟩ = some (.slice A0_9 l0_9.length c0_9) := (blk_cell BK330.out 9).trans rfl
                  have hcz32_10 : wc.cell? ⟨gb330, 10, none⟩ = some (.int .i64 a0_10) := (blk_cell BK330.out 10).trans rfl
                  have hcz32_11 : wc.cell? ⟨gb330, 11, none⟩ = some (.bool a0_11) := (blk_cell BK330.out 11).trans rfl
                  have hfz32_0 := blk_frozen BK330.out 0
                  have hfz32_1 := blk_frozen BK330.out 1
                  have hfz32_2 := blk_frozen BK330.out 2
                  have hfz32_3 := blk_frozen BK330.out 3
                  have hfz32_4 := blk_frozen BK330.out 4
                  have hfz32_5 := blk_frozen BK330.out 5
                  have hfz32_6 := blk_frozen BK330.out 6
                  have hfz32_7 := blk_frozen BK330.out 7
                  have hfz32_8 := blk_frozen BK330.out 8
                  have hfz32_9 := blk_frozen BK330.out 9
                  have hfz32_10 := blk_frozen BK330.out 10
                  have hfz32_11 := blk_frozen BK330.out 11
                  go_wp2
                  go_ret
                  exact ⟨by first | rfl | (simp [errW_none, errW_some] <;> rfl) | (simp [*, errW_none, errW_some] <;> rfl), by repeat (first | (with_reducible first | exact HB.out | apply below_alloc | apply pw_below_drewN | apply below_drew1 | refine below_set ?_ GE330.out) | exact HB.out)⟩
end Go.Proofs.YtphkionjjhhhlaaGreat.Q
end
section
namespace Go.Proofs.YtphkionjjhhhlaaGreat.Q
open Go.RowKit Go.Proofs.YtphkionjjhhhlaaGreatW.PrintWords Go.Proofs.YtphkionjjhhhlaaGreatW.PrintLast Go.Proofs.YtphkionjjhhhlaaGreatW.PrintMore
theorem all_l0 (l : List Int) (hl : l.length < 1000000) (a b : Int) : ∀ (n j : Nat), j + n = l.length → Ev fun k => dioramaref15_all.l0 k l a b j = some ((l.drop j).all fun v => btw v a b) := by
  intro n
  induction n with
  | zero =>
    intro j hj
    refine Ev.const fun k => ?_
    rw [dioramaref15_all.l0, if_neg (by omega), List.drop_eq_nil_of_le (by omega)]
    rfl
  | succ n ih =>
    intro j hj
    have hjl : j < l.length := by omega
    have hx : l[j]? = some l[j] := List.getElem?_eq_getElem hjl
    rw [drop_at l j _ hx, List.all_cons]
    cases hb : btw l[j] a b with
    | true =>
      refine Ev.step (fun k => ?_) (ih (j + 1) (by omega))
      rw [dioramaref15_all.l0, if_pos (by omega), if_pos (by omega), rd_at l j _ hx, in15_is, Option.bind_some, hb, if_pos rfl, w64_succ j (by omega)]
    | false =>
      refine Ev.const fun k => ?_
      rw [dioramaref15_all.l0, if_pos (by omega), if_pos (by omega), rd_at l j _ hx, in15_is, Option.bind_some, hb, if_neg (by decide), Bool.false_and]
theorem all_is (l : List Int) (hl : l.length < 1000000) (a b : Int) : Ev fun k => dioramaref15_all.f k l a b = some (l.all fun v => btw v a b) := all_l0 l hl a b l.length 0 (by omega)
theorem any_all (l : List Int) (p : Int → Bool) : (!(l.any fun v => !(p v))) = l.all p := by
  rw [List.not_any_eq_all_not]
  simp
theorem ranges_is (x : S68) (h4 : x.f4.length < 1000000) (h9 : x.f9.length < 1000000) : ∃ b, item_ranges.f x.f0 x.f1 x.f2 x.f3 x.f4 x.f5 x.f6 x.f7 x.f8 x.f9 x.f10 x.f11 = some b ∧ (b = true → 0 ≤ x.f1 ∧ x.f1 ≤ 3) ∧ Ev fun k => dioramaref15_ranges.f k x.f0 x.f1 x.f2 x.f3 x.f4 x.f5 x.f6 x.f7 x.f8 x.f9 x.f10 x.f11 = some b := by
  obtain ⟨K4, hK4⟩ := all_is x.f4 h4 (-64) 64
  obtain ⟨K9, hK9⟩ := all_is x.f9 h9 0 4095
  refine ⟨_, rfl, fun hb => ?_, K4 + K9 + 2, fun k hk => ?_⟩
  · cases h1 : btw x.f1 0 3 with
    | true => simp [btw] at h1; omega
    | false => rw [h1] at hb; simp at hb
  · obtain ⟨k, rfl⟩ : ∃ m, k = m + 2 := ⟨k - 2, by omega⟩
    have e4 := hK4 k (by omega)
    have e9 := hK9 k (by omega)
    rw [any_all, any_all]
    unfold dioramaref15_ranges.f
    rw [in15_is, in15_is, in15_is]
    simp only [Option.bind_some]
    generalize btw x.f0 1 1000 = b0
    generalize btw x.f1 0 3 = b1
    generalize btw x.f10 0 3 = b2
    have j0 : dioramaref15_ranges.j0 (k + 2) true x.f0 x.f1 x.f2 x.f3 x.f4 x.f5 x.f6 x.f7 x.f8 x.f9 x.f10 x.f11 = some false := by rw [dioramaref15_ranges.j0, if_pos rfl]
    cases b0 with
    | false => rw [if_neg (by decide), j0]; rfl
    | true =>
      rw [if_pos rfl]
      cases b1 with
      | false => rw [if_neg (by decide), j0]; rfl
      | true =>
        rw [if_pos rfl]
        cases b2 with
        | false => exact j0
        | true =>
          show dioramaref15_ranges.j0 (k + 2) false x.f0 x.f1 x.f2 x.f3 x.f4 x.f5 x.f6 x.f7 x.f8 x.f9 x.f10 x.f11 = _
          rw [dioramaref15_ranges.j0, if_neg (by decide), in15_is, in15_is]
          simp only [Option.bind_some]
          have j1 : ∀ s, dioramaref15_ranges.j1 (k + 1) s x.f0 x.f1 x.f2 x.f3 x.f4 x.f5 x.f6 x.f7 x.f8 x.f9 x.f10 x.f11 = some (if x.f1 = 1 then (x.f3.length : Int) == 1
              else if x.f1 = 2 then s && btw (x.f9.length : Int) 1 4 && (x.f9.all fun v => btw v 0 4095) && decide ((x.f3.length : Int) ≤ 8) && ((x.f4.length : Int) == wrap64 (2 * (x.f3.length : Int))) && (x.f4.all fun v => btw v (-64) 64)
              else if x.f1 = 3 then s && btw x.f5 1 8 && btw x.f6 1 8 && ((x.f3.length : Int) == wrap64 (x.f5 * x.f6)) else true) := by
            intro s
            rw [dioramaref15_ranges.j1, in15_is, in15_is, in15_is]
            simp only [Option.bind_some, e4, e9]
            by_cases hk1 : x.f1 = 1
            · rw [if_pos hk1, if_pos hk1]
            · rw [if_neg hk1, if_neg hk1]
              by_cases hk2 : x.f1 = 2
              · rw [if_pos hk2, if_pos hk2]
                generalize btw (x.f9.length : Int) 1 4 = c1
                generalize (x.f9.all fun v => btw v 0 4095) = c2
                generalize (x.f4.all fun v => btw v (-64) 64) = c3
                cases s with
                | false => rfl
                | true =>
                  cases c1 with
                  | false => rfl
                  | true =>
                    cases c2 with
                    | false => rfl
                    | true =>
                      rw [if_pos rfl, if_pos rfl, if_pos rfl]
                      by_cases h8 : (x.f3.length : Int) ≤ 8
                      · rw [if_pos h8, decide_eq_true h8]
                        by_cases h9 : (x.f4.length : Int) = wrap64 (2 * (x.f3.length : Int))
                        · rw [if_pos h9, h9]; simp
                        · rw [if_neg h9, beq_eq_false_iff_ne.2 h9]; rfl
                      · rw [if_neg h8, decide_eq_false h8]; rfl
              · rw [if_neg hk2, if_neg hk2]
                by_cases hk3 : x.f1 = 3
                · rw [if_pos hk3, if_pos hk3]
                  generalize btw x.f5 1 8 = c1
                  generalize btw x.f6 1 8 = c2
                  cases s <;> cases c1 <;> cases c2 <;> rfl
                · rw [if_neg hk3, if_neg hk3]
          rw [j1, j1]
          generalize btw x.f7 1 64 = c1
          generalize btw x.f8 1 64 = c2
          cases c1 <;> rfl
theorem unused_is (x : S68) : item_unused.f 4 x.f0 x.f1 x.f2 x.f3 x.f4 x.f5 x.f6 x.f7 x.f8 x.f9 x.f10 x.f11 = some (if x.f1 = 0 then ((x.f3.length : Int) == 0) && (x.f5 == 0 && x.f6 == 0) && (((x.f4.length : Int) == 0) && ((x.f9.length : Int) == 0)) && (x.f7 == 0 && x.f8 == 0)
      else if x.f1 = 1 then ((x.f2.length : Int) == 0) && (x.f5 == 0 && x.f6 == 0) && (((x.f4.length : Int) == 0) && ((x.f9.length : Int) == 0)) && (x.f7 == 0 && x.f8 == 0)
      else if x.f1 = 2 then ((x.f2.length : Int) == 0) && (x.f5 == 0 && x.f6 == 0) else ((x.f2.length : Int) == 0) && (((x.f4.length : Int) == 0) && ((x.f9.length : Int) == 0))) := by
  have e0 : item_unused.f 4 x.f0 x.f1 x.f2 x.f3 x.f4 x.f5 x.f6 x.f7 x.f8 x.f9 x.f10 x.f11 = item_unused.j0 4 (x.f5 == 0 && x.f6 == 0) x.f0 x.f1 x.f2 x.f3 x.f4 x.f5 x.f6 x.f7 x.f8 x.f9 x.f10 x.f11 := by
    unfold item_unused.f
    by_cases h : x.f5 = 0
    · rw [if_pos h, beq_iff_eq.2 h, Bool.true_and]
    · rw [if_neg h, beq_eq_false_iff_ne.2 h, Bool.false_and]
  rw [e0]
  generalize (x.f5 == 0 && x.f6 == 0) = g
  have e1 : item_unused.j0 4 g x.f0 x.f1 x.f2 x.f3 x.f4 x.f5 x.f6 x.f7 x.f8 x.f9 x.f10 x.f11 = item_unused.j1 3 g (((x.f4.length : Int) == 0) && ((x.f9.length : Int) == 0)) x.f0 x.f1 x.f2 x.f3 x.f4 x.f5 x.f6 x.f7 x.f8 x.f9 x.f10 x.f11 := by
    rw [item_unused.j0]
    by_cases h : (x.f4.length : Int) = 0
    · rw [if_pos h, beq_iff_eq.2 h, Bool.true_and]
    · rw [if_neg h, beq_eq_false_iff_ne.2 h, Bool.false_and]
  rw [e1]
  generalize (((x.f4.length : Int) == 0) && ((x.f9.length : Int) == 0)) = o
  have e2 : item_unused.j1 3 g o x.f0 x.f1 x.f2 x.f3 x.f4 x.f5 x.f6 x.f7 x.f8 x.f9 x.f10 x.f11 = item_unused.j2 2 g o (x.f7 == 0 && x.f8 == 0) x.f0 x.f1 x.f2 x.f3 x.f4 x.f5 x.f6 x.f7 x.f8 x.f9 x.f10 x.f11 := by
    rw [item_unused.j1]
    by_cases h : x.f7 = 0
    · rw [if_pos h, beq_iff_eq.2 h, Bool.true_and]
    · rw [if_neg h, beq_eq_false_iff_ne.2 h, Bool.false_and]
  rw [e2]
  generalize (x.f7 == 0 && x.f8 == 0) = s
  rw [item_unused.j2]
  have k3 : ((x.f3.length : Int) = 0 ∧ ((x.f3.length : Int) == 0) = true) ∨ (¬ (x.f3.length : Int) = 0 ∧ ((x.f3.length : Int) == 0) = false) := by
    by_cases h : (x.f3.length : Int) = 0
    · exact .inl ⟨h, beq_iff_eq.2 h⟩
    · exact .inr ⟨h, beq_eq_false_iff_ne.2 h⟩
  have k2 : ((x.f2.length : Int) = 0 ∧ ((x.f2.length : Int) == 0) = true) ∨ (¬ (x.f2.length : Int) = 0 ∧ ((x.f2.length : Int) == 0) = false) := by
    by_cases h : (x.f2.length : Int) = 0
    · exact .inl ⟨h, beq_iff_eq.2 h⟩
    · exact .inr ⟨h, beq_eq_false_iff_ne.2 h⟩
  by_cases h0 : x.f1 = 0
  · rw [if_pos h0, if_pos h0]
    rcases k3 with ⟨h, h'⟩ | ⟨h, h'⟩
    · rw [if_pos h, h']; cases g <;> cases o <;> rfl
    · rw [if_neg h, h']; rfl
  · rw [if_neg h0, if_neg h0]
    by_cases h1 : x.f1 = 1
    · rw [if_pos h1, if_pos h1]
      rcases k2 with ⟨h, h'⟩ | ⟨h, h'⟩
      · rw [if_pos h, h']; cases g <;> cases o <;> rfl
      · rw [if_neg h, h']; rfl
    · rw [if_neg h1, if_neg h1]
      by_cases h2 : x.f1 = 2
      · rw [if_pos h2, if_pos h2]
        rcases k2 with ⟨h, h'⟩ | ⟨h, h'⟩
        · rw [if_pos h, h']; rfl
        · rw [if_neg h, h']; rfl
      · rw [if_neg h2, if_neg h2]
        rcases k2 with ⟨h, h'⟩ | ⟨h, h'⟩
        · rw [if_pos h, h']; rfl
        · rw [if_neg h, h']; rfl
theorem clean_is (x : S68) (hk : 0 ≤ x.f1 ∧ x.f1 ≤ 3) : ∃ u, item_unused.f 4 x.f0 x.f1 x.f2 x.f3 x.f4 x.f5 x.f6 x.f7 x.f8 x.f9 x.f10 x.f11 = some u ∧ Ev fun k => dioramaref15_clean.f k x.f0 x.f1 x.f2 x.f3 x.f4 x.f5 x.f6 x.f7 x.f8 x.f9 x.f10 x.f11 = some (u && decide (x.f2.length ≤ 65536)) := by
  refine ⟨_, unused_is x, Ev.const fun k => ?_⟩
  have lq : ∀ a : Int, 0 ≤ a → (0 < a ∧ ¬ a = 0) ∨ a = 0 := fun a ha => by omega
  unfold dioramaref15_clean.f
  simp only [dioramaref15_clean.j0]
  by_cases hd : (x.f2.length : Int) > 65536
  · have e1 : decide (x.f2.length ≤ 65536) = false := decide_eq_false (by omega)
    rw [if_pos hd, if_pos trivial, e1, Bool.and_false]
  · have e1 : decide (x.f2.length ≤ 65536) = true := decide_eq_true (by omega)
    rw [if_neg hd, e1, Bool.and_true]
    have h4 := lq (x.f4.length : Int) (by omega)
    have h9 := lq (x.f9.length : Int) (by omega)
    have h3 := lq (x.f3.length : Int) (by omega)
    have h2 := lq (x.f2.length : Int) (by omega)
    clear hd e1 lq
    generalize (x.f4.length : Int) = n4 at *
    generalize (x.f9.length : Int) = n9 at *
    generalize (x.f3.length : Int) = n3 at *
    generalize (x.f2.length : Int) = n2 at *
    generalize x.f5 = a5
    generalize x.f6 = a6
    generalize x.f7 = a7
    generalize x.f8 = a8
    have bq : ∀ a : Int, a = 0 ∨ ¬ a = 0 := fun a => Classical.em _
    obtain h1 | h1 | h1 | h1 : x.f1 = 0 ∨ x.f1 = 1 ∨ x.f1 = 2 ∨ x.f1 = 3 := by omega
    · simp only [h1]
      rcases h3 with ⟨p3, q3⟩ | rfl
      · simp [p3, q3]
      · rcases h4 with ⟨p4, q4⟩ | rfl
        · simp [p4, q4]
        · rcases h9 with ⟨p9, q9⟩ | rfl
          · simp [p9, q9]
          · rcases bq a5 with rfl | h5 <;> rcases bq a6 with rfl | h6 <;> rcases bq a7 with rfl | h7 <;> simp [*]
    · simp only [h1]
      rcases h2 with ⟨p3, q3⟩ | rfl
      · simp [p3, q3]
      · rcases h4 with ⟨p4, q4⟩ | rfl
        · simp [p4, q4]
        · rcases h9 with ⟨p9, q9⟩ | rfl
          · simp [p9, q9]
          · rcases bq a5 with rfl | h5 <;> rcases bq a6 with rfl | h6 <;> rcases bq a7 with rfl | h7 <;> simp [*]
    · simp only [h1]
      rcases h2 with ⟨p3, q3⟩ | rfl
      · simp [p3, q3]
      · rcases bq a5 with rfl | h5 <;> rcases bq a6 with rfl | h6 <;> simp [*]
    · simp only [h1]
      rcases h2 with ⟨p3, q3⟩ | rfl
      · simp [p3, q3]
      · rcases h4 with ⟨p4, q4⟩ | rfl
        · simp [p4, q4]
        · rcases h9 with ⟨p9, q9⟩ | rfl
          · simp [p9, q9]
          · simp
end Go.Proofs.YtphkionjjhhhlaaGreat.Q
end
section
namespace Go.Proofs.YtphkionjjhhhlaaGreat.Q
open Go.RowKit Go.Proofs.YtphkionjjhhhlaaGreatW.PrintWords Go.Proofs.YtphkionjjhhhlaaGreatW.PrintLast Go.Proofs.YtphkionjjhhhlaaGreatW.PrintMore
theorem enters_57 : ∀ (args : Array Value) (W : World), (callFunc 57 args).run Tryz.prog W = .ok (.enter 57 args) W := enters_of Tryz.func57 (by kernel_rfl) rfl
def chkA : Int → List S68 → Option (Option (Int × Int))
  | _, [] => some none
  | i, x :: t => (item_ranges.f x.f0 x.f1 x.f2 x.f3 x.f4 x.f5 x.f6 x.f7 x.f8 x.f9 x.f10 x.f11).bind fun a => if a = false then some (some (1, i)) else (item_unused.f 4 x.f0 x.f1 x.f2 x.f3 x.f4 x.f5 x.f6 x.f7 x.f8 x.f9 x.f10 x.f11).bind fun b => if b = false then some (some (4, i)) else if 65536 < x.f2.length then some (some (4, i)) else chkA (i + 1) t
def chkB (l : List S68) : Int → List S68 → Option (Int × Int)
  | _, [] => none
  | i, x :: t => if findI l x.f0 < i then some (30, i) else if (x.f3.any fun id => decide (findI l id < 0)) = true then some (5, i) else chkB l (i + 1) t
def chkC (l : List S68) : Int → List S68 → Option (Option (Int × Int))
  | _, [] => some none
  | i, _ :: t => (item_loops.f l i).bind fun b => if b = true then some (some (150, i)) else chkC l (i + 1) t
def item_Check.f (l0 : List S68) : Option (Int × Int) :=
  if 12 < l0.length then some (2, -1) else (chkA 0 l0).bind fun a => match a with
    | some r => some r
    | none => match chkB l0 0 l0 with
      | some r => some r
      | none => (chkC l0 0 l0).bind fun c => match c with
        | some r => some r
        | none => some (0, -1)
set_option maxHeartbeats 8000000 in
set_option maxRecDepth 100000 in
theorem pred_57 (A0 : Option Addr) (c0 : Nat) (l0 : List S68) (gb : Nat) (w : World) (hr0 : Kd.C k68 w A0 l0.length l0) (hc0 : l0.length ≤ c0) (hb : w.heap[gb]? = some (.cells #[.slice A0 l0.length c0] 35 (0, 0))) : PredIn Tryz.prog 57 #[.pointer (some ⟨gb, 0, none⟩)] (fun _ (x : Int) v => v = .int .i64 x) (fun id => decide (findI l0 id < 0)) w := ⟨enters_57, fun W x v hW he => by
  subst he
  have k0 : W.cell? ⟨gb, 0, none⟩ = some (.slice A0 l0.length c0) := (blk_cell ((hW.block gb (blk_lt hb)).trans hb) 0).trans rfl
  have HR := Aside0.mk (Kd.C_below hr0 hW)
  have HC := Aside0.mk hc0
  clear hr0 hc0 hb hW
  simp only [List.append_toArray, List.cons_append, List.nil_append]
  go_enter Tryz.func57, Tryz.ntmps57
  go_wp2_with (go_at_call 55; (with_reducible refine (item_find.calls A0 c0 l0 x (findI l0 x) _ HR.out HC.out rfl).mono ?_); rintro e w' ⟨rfl, hb⟩; have HB := Aside0.mk hb; clear hb)
  go_ret
  exact ⟨rfl, HB.out⟩⟩
set_option maxHeartbeats 32000000 in
set_option maxRecDepth 100000 in
theorem item_Check.calls (A0 : Option Addr) (c0 : Nat) (l0 : List S68) (r1 : Int) (r2 : Int) (w : World) (hr0 : Kd.C k68 w A0 l0.length l0) (hc0 : l0.length ≤ c0) (h : item_Check.f l0 = some (r1, r2)) :
    Calls Tryz.prog 19 #[.slice A0 l0.length c0] w fun e w' => e = .returned (.tuple #[.int .i64 r1, .int .i64 r2]) ∧ Below w.heap.size w w' := by
  have HR := Aside0.mk hr0
  have HC := Aside0.mk hc0
  clear hr0 hc0
  have hu68 := Tryz.underlying68
  have hmf := makeFunc_run
  unfold item_Check.f at h
  by_cases hlen : 12 < l0.length
  · rw [if_pos hlen] at h
    obtain ⟨rfl, rfl⟩ := Prod.mk.inj (Option.some.inj h)
    have d0 : decide (12 < (l0.length : Int)) = true := decide_eq_true (by omega)
    clear h hlen
    go_enter Tryz.func19, Tryz.ntmps19
    go_wp2
    go_ret2
    exact ⟨rfl, by repeat (first | exact Below.refl _ _ | apply below_alloc)⟩
  · rw [if_neg hlen] at h
    have HL : Aside0 (l0.length ≤ 12) := ⟨by omega⟩
    have d0 : decide (12 < (l0.length : Int)) = false := decide_eq_false (by omega)
    clear hlen
    have H := Aside0.mk h
    clear h
    go_enter Tryz.func19, Tryz.ntmps19
    go_wp2
    have H2 : Aside0 (((chkA (0 : Int) (l0.drop (0 : Int).toNat)).bind fun a => match a with
      | some r => some r
      | none => match chkB l0 0 l0 with
        | some r => some r
        | none => (chkC l0 0 l0).bind fun c => match c with
          | some r => some r
          | none => some (0, -1)) = some (r1, r2)) := ⟨H.out⟩
    clear H
    go_loopg [14] l0.length (fun kq v14 w' => ∃ (i : Int), v14 = .int .i64 i ∧ Aside0 (0 ≤ i ∧ i + kq = l0.length) ∧ Aside0 (((chkA i (l0.drop i.toNat)).bind fun a => match a with
      | some r => some r
      | none => match chkB l0 0 l0 with
        | some r => some r
        | none => (chkC l0 0 l0).bind fun c => match c with
          | some r => some r
          | none => some (0, -1)) = some (r1, r2)) ∧ Aside0 (w'.heap[w.heap.size]? = some (.cells #[.slice A0 l0.length c0] 35 (0, 0))) ∧ Aside0 (Below w.heap.size w w'))
    case atStart => exact ⟨0, rfl, ⟨by omega, by omega⟩, H2, ⟨heap_alloc_new w _⟩, ⟨below_alloc (Below.refl _ _) _⟩⟩
    case round =>
      clear H2
      obtain ⟨i, rfl, HI, HST, BKb, HB⟩ := hrel
      cases gk with
      | zero =>
        have hge : decide (i < (l0.length : Int)) = false := by have := HI.out; simp; omega
        have hst := HST.out
        rw [List.drop_eq_nil_of_le (by have := HI.out; omega)] at hst
        clear HST
        have HST := Aside0.mk hst
        clear hst
        have kb : wr.cell? ⟨w.heap.size, 0, none⟩ = some (.slice A0 l0.length c0) := (blk_cell BKb.out 0).trans rfl
        go_wp2
        clear kb
        go_loopg [36] l0.length (fun kq v36 w' => ∃ (i : Int), v36 = .int .i64 i ∧ Aside0 (0 ≤ i ∧ i + kq = l0.length) ∧ Aside0 ((match chkB l0 i (l0.drop i.toNat) with
              | some r => some r
              | none => (chkC l0 0 l0).bind fun c => match c with
                | some r => some r
                | none => some (0, -1)) = some (r1, r2)) ∧ Aside0 (w'.heap[w.heap.size]? = some (.cells #[.slice A0 l0.length c0] 35 (0, 0))) ∧ Aside0 (Below w.heap.size w w'))
        case atStart => exact ⟨0, rfl, ⟨by omega, by omega⟩, ⟨HST.out⟩, BKb, HB⟩
        case round =>
          clear HST BKb HB HI hge
          obtain ⟨i, rfl, HI, HST, BKb, HB⟩ := hrel
          have kb : wr.cell? ⟨w.heap.size, 0, none⟩ = some (.slice A0 l0.length c0) := (blk_cell BKb.out 0).trans rfl
          have kba : ∀ o : Obj, (wr.alloc o).cell? ⟨w.heap.size, 0, none⟩ = some (.slice A0 l0.length c0) := fun o => (blk_cell (blk_alloc BKb.out o) 0).trans rfl
          cases gk with
          | zero =>
            have hge : decide (i < (l0.length : Int)) = false := by have := HI.out; simp; omega
            have hst := HST.out
            rw [List.drop_eq_nil_of_le (by have := HI.out; omega)] at hst
            simp only [chkB] at hst
            have H3 : Aside0 (((chkC l0 (0 : Int) (l0.drop (0 : Int).toNat)).bind fun c => match c with
                | some r => some r
                | none => some (0, -1)) = some (r1, r2)) := ⟨hst⟩
            clear hst HST kba
            go_wp2
            clear kb
            go_loopg [56] l0.length (fun kq v56 w' => ∃ (i : Int), v56 = .int .i64 i ∧ Aside0 (0 ≤ i ∧ i + kq = l0.length) ∧ Aside0 (((chkC l0 i (l0.drop i.toNat)).bind fun c => match c with
                | some r => some r
                | none => some (0, -1)) = some (r1, r2)) ∧ Aside0 (w'.heap[w.heap.size]? = some (.cells #[.slice A0 l0.length c0] 35 (0, 0))) ∧ Aside0 (Below w.heap.size w w'))
            case atStart => exact ⟨0, rfl, ⟨by omega, by omega⟩, H3, BKb, HB⟩
            case round =>
              clear H3 BKb HB HI hge
              obtain ⟨i, rfl, HI, HST, BKb, HB⟩ := hrel
              have kb : wr.cell? ⟨w.heap.size, 0, none⟩ = some (.slice A0 l0.length c0) := (blk_cell BKb.out 0).trans rfl
              cases gk with
              | zero =>
                have hge : decide (i < (l0.length : Int)) = false := by have := HI.out; simp; omega
                have hst := HST.out
                rw [List.drop_eq_nil_of_le (by have := HI.out; omega)] at hst
                simp only [chkC, Option.bind_some] at hst
                obtain ⟨rfl, rfl⟩ := Prod.mk.inj (Option.some.inj hst)
                clear hst HST
                go_wp2
                go_ret2
                exact ⟨rfl, HB.out⟩
              | succ kq3 =>
                have hil : i.toNat < l0.length := by have := HI.out; omega
                have hge : decide (i < (l0.length : Int)) = true := by have := HI.out; simp; omega
                have hst := HST.out
                rw [List.drop_eq_getElem_cons hil] at hst
                simp only [chkC] at hst
                rw [Option.bind_assoc] at hst
                obtain ⟨lb, hlb, hst⟩ := Option.bind_eq_some_iff.1 hst
                have HLB := Aside0.mk hlb
                clear hlb HST hil
                have hw : Aside0 (wrap64 (i + 1) = i + 1 ∧ (i + 1).toNat = i.toNat + 1) := ⟨by have := HI.out; have := HL.out; unfold wrap64; omega, by have := HI.out; omega⟩
                cases hlbb : lb with
                | true =>
                  subst hlbb
                  simp only [if_true, Option.bind_some] at hst
                  obtain ⟨rfl, rfl⟩ := Prod.mk.inj (Option.some.inj hst)
                  clear hst
                  go_wp2_with (go_at_call 58; (with_reducible refine (item_loops.calls A0 c0 l0 i _ _ (Kd.C_below HR.out HB.out) HC.out HLB.out).mono ?_); rintro e w5 ⟨rfl, hb⟩; have HB5 := Aside0.mk hb; clear hb)
                  go_ret2
                  exact ⟨rfl, pw_below_trans HB.out HB5.out⟩
                | false =>
                  subst hlbb
                  simp only [Bool.false_eq_true, if_false] at hst
                  have HST := Aside0.mk hst
                  clear hst
                  go_wp2_with (go_at_call 58; (with_reducible refine (item_loops.calls A0 c0 l0 i _ _ (Kd.C_below HR.out HB.out) HC.out HLB.out).mono ?_); rintro e w5 ⟨rfl, hb⟩; have HB5 := Aside0.mk hb; clear hb)
                  go_roundg kq3
                  case measure => omega
                  case rel => exact ⟨i + 1, congrArg _ hw.out.1, ⟨by have := HI.out; omega, by have := HI.out; omega⟩, ⟨by rw [hw.out.2]; exact HST.out⟩, ⟨blk_below BKb.out HB5.out⟩, ⟨pw_below_trans HB.out HB5.out⟩⟩
          | succ kq2 =>
            have h0 : 0 ≤ i := by have := HI.out; omega
            have h1 : i < (l0.length : Int) := by have := HI.out; omega
            have hge : decide (i < (l0.length : Int)) = true := decide_eq_true h1
            have hg0 : decide (0 ≤ i) = true := decide_eq_true h0
            have hl12 := HL.out
            obtain ⟨ad, A2, c2, A3, c3, A4, c4, A9, c9, e0, hx0, hx1, hx2, hx3, hx4, hx5, hx6, hx7, hx8, hx9, hx10, hx11, g1, g2, g3, g4, g5, g6, g7, g8⟩ := at_T68 (Kd.C_below HR.out HB.out) i h0 h1
            cases e0
            have HX := Aside0.mk (And.intro g1 (And.intro g2 (And.intro g3 (And.intro g4 (And.intro g5 (And.intro g6 (And.intro g7 g8)))))))
            clear g1 g2 g3 g4 g5 g6 g7 g8
            have hdr : l0.drop i.toNat = rd_T68 l0 i :: l0.drop (i.toNat + 1) := by
              have hl : i.toNat < l0.length := by omega
              rw [List.drop_eq_getElem_cons hl]
              congr 1
              simp [rd_T68, List.getD_eq_getElem?_getD, hl]
            have hst := HST.out
            rw [hdr] at hst
            clear hdr HST
            generalize rd_T68 l0 i = x at *
            have hw : Aside0 (wrap64 (i + 1) = i + 1 ∧ (i + 1).toNat = i.toNat + 1) := ⟨by have := HI.out; have := HL.out; unfold wrap64; omega, by omega⟩
            replace h0 := eq_true h0
            replace h1 := eq_true h1
            clear hl12
            simp only [chkB] at hst
            by_cases hf : findI l0 x.f0 < i
            · rw [if_pos hf] at hst
              obtain ⟨rfl, rfl⟩ := Prod.mk.inj (Option.some.inj hst)
              clear hst
              have df : decide (findI l0 x.f0 < i) = true := decide_eq_true hf
              clear hf
              go_wp2_with (first | (go_at_call 55; (with_reducible refine (item_find.calls (some ad) c0 l0 x.f0 (findI l0 x.f0) _ (Kd.C_alloc (Kd.C_below HR.out HB.out) _) HC.out rfl).mono ?_); rintro e w5 ⟨rfl, hb⟩; have BK5 := Aside0.mk (blk_below (heap_alloc_new wr (.cells #[.int .i64 x.f0, .int .i64 x.f1, .slice A2 x.f2.length c2, .slice A3 x.f3.length c3, .slice A4 x.f4.length c4, .int .i64 x.f5, .int .i64 x.f6, .int .i64 x.f7, .int .i64 x.f8, .slice A9 x.f9.length c9, .int .i64 x.f10, .bool x.f11] 68)) hb); have HB5 := Aside0.mk (pw_below_trans (below_alloc (Below.refl _ _) _) hb); have j0 : w5.cell? ⟨w.heap.size, 0, none⟩ = some (.slice (some ad) l0.length c0) := (blk_cell (blk_below BKb.out HB5.out) 0).trans rfl; clear hb; have j3 : w5.cell? ⟨wr.heap.size, 3, none⟩ = some (.slice A3 x.f3.length c3) := (blk_cell BK5.out 3).trans rfl))
              go_ret2
              exact ⟨rfl, pw_below_trans HB.out HB5.out⟩
            · rw [if_neg hf] at hst
              have df : decide (findI l0 x.f0 < i) = false := decide_eq_false hf
              clear hf
              cases ha : (x.f3.any fun id => decide (findI l0 id < 0)) with
              | true =>
                rw [if_pos ha] at hst
                obtain ⟨rfl, rfl⟩ := Prod.mk.inj (Option.some.inj hst)
                have ANY := Aside0.mk ha
                clear hst ha
                go_wp2_with (first | (go_at_call 55; (with_reducible refine (item_find.calls (some ad) c0 l0 x.f0 (findI l0 x.f0) _ (Kd.C_alloc (Kd.C_below HR.out HB.out) _) HC.out rfl).mono ?_); rintro e w5 ⟨rfl, hb⟩; have BK5 := Aside0.mk (blk_below (heap_alloc_new wr (.cells #[.int .i64 x.f0, .int .i64 x.f1, .slice A2 x.f2.length c2, .slice A3 x.f3.length c3, .slice A4 x.f4.length c4, .int .i64 x.f5, .int .i64 x.f6, .int .i64 x.f7, .int .i64 x.f8, .slice A9 x.f9.length c9, .int .i64 x.f10, .bool x.f11] 68)) hb); have HB5 := Aside0.mk (pw_below_trans (below_alloc (Below.refl _ _) _) hb); have j0 : w5.cell? ⟨w.heap.size, 0, none⟩ = some (.slice (some ad) l0.length c0) := (blk_cell (blk_below BKb.out HB5.out) 0).trans rfl; clear hb; have j3 : w5.cell? ⟨wr.heap.size, 3, none⟩ = some (.slice A3 x.f3.length c3) := (blk_cell BK5.out 3).trans rfl) | (go_at_call 56; (with_reducible refine (ContainsFunc_int.calls 57 #[.pointer (some ⟨w.heap.size, 0, none⟩)] (fun id => decide (findI l0 id < 0)) A3 c3 x.f3 _ (Kd.C_below HX.out.2.2.2.1 HB5.out) (pred_57 (some ad) c0 l0 w.heap.size _ (Kd.C_below (Kd.C_below HR.out HB.out) HB5.out) HC.out (blk_below BKb.out HB5.out))).mono ?_); rintro e w6 ⟨rfl, hb⟩; have HB6 := Aside0.mk (pw_below_trans HB5.out hb); clear hb; try rw [ANY.out]))
                go_ret2
                exact ⟨rfl, pw_below_trans HB.out HB6.out⟩
              | false =>
                rw [if_neg (by rw [ha]; decide)] at hst
                have HST := Aside0.mk hst
                have ANY := Aside0.mk ha
                clear hst ha
                go_wp2_with (first | (go_at_call 55; (with_reducible refine (item_find.calls (some ad) c0 l0 x.f0 (findI l0 x.f0) _ (Kd.C_alloc (Kd.C_below HR.out HB.out) _) HC.out rfl).mono ?_); rintro e w5 ⟨rfl, hb⟩; have BK5 := Aside0.mk (blk_below (heap_alloc_new wr (.cells #[.int .i64 x.f0, .int .i64 x.f1, .slice A2 x.f2.length c2, .slice A3 x.f3.length c3, .slice A4 x.f4.length c4, .int .i64 x.f5, .int .i64 x.f6, .int .i64 x.f7, .int .i64 x.f8, .slice A9 x.f9.length c9, .int .i64 x.f10, .bool x.f11] 68)) hb); have HB5 := Aside0.mk (pw_below_trans (below_alloc (Below.refl _ _) _) hb); have j0 : w5.cell? ⟨w.heap.size, 0, none⟩ = some (.slice (some ad) l0.length c0) := (blk_cell (blk_below BKb.out HB5.out) 0).trans rfl; clear hb; have j3 : w5.cell? ⟨wr.heap.size, 3, none⟩ = some (.slice A3 x.f3.length c3) := (blk_cell BK5.out 3).trans rfl) | (go_at_call 56; (with_reducible refine (ContainsFunc_int.calls 57 #[.pointer (some ⟨w.heap.size, 0, none⟩)] (fun id => decide (findI l0 id < 0)) A3 c3 x.f3 _ (Kd.C_below HX.out.2.2.2.1 HB5.out) (pred_57 (some ad) c0 l0 w.heap.size _ (Kd.C_below (Kd.C_below HR.out HB.out) HB5.out) HC.out (blk_below BKb.out HB5.out))).mono ?_); rintro e w6 ⟨rfl, hb⟩; have HB6 := Aside0.mk (pw_below_trans HB5.out hb); clear hb; try rw [ANY.out]))
                go_roundg kq2
                case measure => omega
                case rel => exact ⟨i + 1, congrArg _ hw.out.1, ⟨by have := HI.out; omega, by have := HI.out; omega⟩, ⟨by rw [hw.out.2]; exact HST.out⟩, ⟨blk_below BKb.out HB6.out⟩, ⟨pw_below_trans HB.out HB6.out⟩⟩
      | succ kq1 =>
        have h0 : 0 ≤ i := by have := HI.out; omega
        have h1 : i < (l0.length : Int) := by have := HI.out; omega
        have hge : decide (i < (l0.length : Int)) = true := decide_eq_true h1
        have hg0 : decide (0 ≤ i) = true := decide_eq_true h0
        have hl12 := HL.out
        obtain ⟨ad, A2, c2, A3, c3, A4, c4, A9, c9, e0, hx0, hx1, hx2, hx3, hx4, hx5, hx6, hx7, hx8, hx9, hx10, hx11, g1, g2, g3, g4, g5, g6, g7, g8⟩ := at_T68 (Kd.C_below HR.out HB.out) i h0 h1
        cases e0
        have HX := Aside0.mk (And.intro g1 (And.intro g2 (And.intro g3 (And.intro g4 (And.intro g5 (And.intro g6 (And.intro g7 g8)))))))
        clear g1 g2 g3 g4 g5 g6 g7 g8
        have hdr : l0.drop i.toNat = rd_T68 l0 i :: l0.drop (i.toNat + 1) := by
          have hl : i.toNat < l0.length := by omega
          rw [List.drop_eq_getElem_cons hl]
          congr 1
          simp [rd_T68, List.getD_eq_getElem?_getD, hl]
        have hst := HST.out
        rw [hdr] at hst
        clear hdr HST
        generalize rd_T68 l0 i = x at *
        have hw : Aside0 (wrap64 (i + 1) = i + 1 ∧ (i + 1).toNat = i.toNat + 1) := ⟨by have := HI.out; have := HL.out; unfold wrap64; omega, by omega⟩
        replace h0 := eq_true h0
        replace h1 := eq_true h1
        clear hl12
        simp only [chkA, Option.bind_assoc] at hst
        obtain ⟨ra, hra, hst⟩ := Option.bind_eq_some_iff.1 hst
        have HRA := Aside0.mk hra
        clear hra
        cases hrab : ra with
        | false =>
          subst hrab
          simp only [if_true, Option.bind_some] at hst
          obtain ⟨rfl, rfl⟩ := Prod.mk.inj (Option.some.inj hst)
          clear hst
          have RA : Aside0 (True) := ⟨trivial⟩
          go_wp2_with (first | (go_at_call 53; (with_reducible refine (item_ranges.calls x.f0 x.f1 A2 c2 x.f2 A3 c3 x.f3 A4 c4 x.f4 x.f5 x.f6 x.f7 x.f8 A9 c9 x.f9 x.f10 x.f11 _ _ ?s2 HX.out.1 ?s3 HX.out.2.2.1 ?s4 HX.out.2.2.2.2.1 ?s9 HX.out.2.2.2.2.2.2.1 HRA.out).mono ?_); (case s2 => exact Kd.C_alloc (HX.out.2.1) _); (case s3 => exact Kd.C_alloc (HX.out.2.2.2.1) _); (case s4 => exact Kd.C_alloc (HX.out.2.2.2.2.2.1) _); (case s9 => exact Kd.C_alloc (HX.out.2.2.2.2.2.2.2) _); rintro e w5 ⟨rfl, hb⟩; have BK5 := Aside0.mk (blk_below (heap_alloc_new wr (.cells #[.int .i64 x.f0, .int .i64 x.f1, .slice A2 x.f2.length c2, .slice A3 x.f3.length c3, .slice A4 x.f4.length c4, .int .i64 x.f5, .int .i64 x.f6, .int .i64 x.f7, .int .i64 x.f8, .slice A9 x.f9.length c9, .int .i64 x.f10, .bool x.f11] 68)) hb); have HB5 := Aside0.mk (pw_below_trans (below_alloc (Below.refl _ _) _) hb); clear hb; have j0 : w5.cell? ⟨wr.heap.size, 0, none⟩ = some (.int .i64 x.f0) := (blk_cell BK5.out 0).trans rfl; have j1 : w5.cell? ⟨wr.heap.size, 1, none⟩ = some (.int .i64 x.f1) := (blk_cell BK5.out 1).trans rfl; have j2 : w5.cell? ⟨wr.heap.size, 2, none⟩ = some (.slice A2 x.f2.length c2) := (blk_cell BK5.out 2).trans rfl; have j3 : w5.cell? ⟨wr.heap.size, 3, none⟩ = some (.slice A3 x.f3.length c3) := (blk_cell BK5.out 3).trans rfl; have j4 : w5.cell? ⟨wr.heap.size, 4, none⟩ = some (.slice A4 x.f4.length c4) := (blk_cell BK5.out 4).trans rfl; have j5 : w5.cell? ⟨wr.heap.size, 5, none⟩ = some (.int .i64 x.f5) := (blk_cell BK5.out 5).trans rfl; have j6 : w5.cell? ⟨wr.heap.size, 6, none⟩ = some (.int .i64 x.f6) := (blk_cell BK5.out 6).trans rfl; have j7 : w5.cell? ⟨wr.heap.size, 7, none⟩ = some (.int .i64 x.f7) := (blk_cell BK5.out 7).trans rfl; have j8 : w5.cell? ⟨wr.heap.size, 8, none⟩ = some (.int .i64 x.f8) := (blk_cell BK5.out 8).trans rfl; have j9 : w5.cell? ⟨wr.heap.size, 9, none⟩ = some (.slice A9 x.f9.length c9) := (blk_cell BK5.out 9).trans rfl; have j10 : w5.cell? ⟨wr.heap.size, 10, none⟩ = some (.int .i64 x.f10) := (blk_cell BK5.out 10).trans rfl; have j11 : w5.cell? ⟨wr.heap.size, 11, none⟩ = some (.bool x.f11) := (blk_cell BK5.out 11).trans rfl))
          go_ret2
          exact ⟨rfl, pw_below_trans HB.out HB5.out⟩
        | true =>
          subst hrab
          simp only [Bool.true_eq_false, if_false] at hst
          rw [Option.bind_assoc] at hst
          obtain ⟨ub, hub, hst⟩ := Option.bind_eq_some_iff.1 hst
          have HUB := Aside0.mk hub
          clear hub
          have RA : Aside0 (True) := ⟨trivial⟩
          have UB : Aside0 (True) := ⟨trivial⟩
          cases hubb : ub with
          | false =>
            subst hubb
            simp only [if_true, Option.bind_some] at hst
            obtain ⟨rfl, rfl⟩ := Prod.mk.inj (Option.some.inj hst)
            clear hst
            go_wp2_with (first | (go_at_call 53; (with_reducible refine (item_ranges.calls x.f0 x.f1 A2 c2 x.f2 A3 c3 x.f3 A4 c4 x.f4 x.f5 x.f6 x.f7 x.f8 A9 c9 x.f9 x.f10 x.f11 _ _ ?s2 HX.out.1 ?s3 HX.out.2.2.1 ?s4 HX.out.2.2.2.2.1 ?s9 HX.out.2.2.2.2.2.2.1 HRA.out).mono ?_); (case s2 => exact Kd.C_alloc (HX.out.2.1) _); (case s3 => exact Kd.C_alloc (HX.out.2.2.2.1) _); (case s4 => exact Kd.C_alloc (HX.out.2.2.2.2.2.1) _); (case s9 => exact Kd.C_alloc (HX.out.2.2.2.2.2.2.2) _); rintro e w5 ⟨rfl, hb⟩; have BK5 := Aside0.mk (blk_below (heap_alloc_new wr (.cells #[.int .i64 x.f0, .int .i64 x.f1, .slice A2 x.f2.length c2, .slice A3 x.f3.length c3, .slice A4 x.f4.length c4, .int .i64 x.f5, .int .i64 x.f6, .int .i64 x.f7, .int .i64 x.f8, .slice A9 x.f9.length c9, .int .i64 x.f10, .bool x.f11] 68)) hb); have HB5 := Aside0.mk (pw_below_trans (below_alloc (Below.refl _ _) _) hb); clear hb; have j0 : w5.cell? ⟨wr.heap.size, 0, none⟩ = some (.int .i64 x.f0) := (blk_cell BK5.out 0).trans rfl; have j1 : w5.cell? ⟨wr.heap.size, 1, none⟩ = some (.int .i64 x.f1) := (blk_cell BK5.out 1).trans rfl; have j2 : w5.cell? ⟨wr.heap.size, 2, none⟩ = some (.slice A2 x.f2.length c2) := (blk_cell BK5.out 2).trans rfl; have j3 : w5.cell? ⟨wr.heap.size, 3, none⟩ = some (.slice A3 x.f3.length c3) := (blk_cell BK5.out 3).trans rfl; have j4 : w5.cell? ⟨wr.heap.size, 4, none⟩ = some (.slice A4 x.f4.length c4) := (blk_cell BK5.out 4).trans rfl; have j5 : w5.cell? ⟨wr.heap.size, 5, none⟩ = some (.int .i64 x.f5) := (blk_cell BK5.out 5).trans rfl; have j6 : w5.cell? ⟨wr.heap.size, 6, none⟩ = some (.int .i64 x.f6) := (blk_cell BK5.out 6).trans rfl; have j7 : w5.cell? ⟨wr.heap.size, 7, none⟩ = some (.int .i64 x.f7) := (blk_cell BK5.out 7).trans rfl; have j8 : w5.cell? ⟨wr.heap.size, 8, none⟩ = some (.int .i64 x.f8) := (blk_cell BK5.out 8).trans rfl; have j9 : w5.cell? ⟨wr.heap.size, 9, none⟩ = some (.slice A9 x.f9.length c9) := (blk_cell BK5.out 9).trans rfl; have j10 : w5.cell? ⟨wr.heap.size, 10, none⟩ = some (.int .i64 x.f10) := (blk_cell BK5.out 10).trans rfl; have j11 : w5.cell? ⟨wr.heap.size, 11, none⟩ = some (.bool x.f11) := (blk_cell BK5.out 11).trans rfl) | (go_at_call 54; (with_reducible refine (item_unused.calls 4 x.f0 x.f1 A2 c2 x.f2 A3 c3 x.f3 A4 c4 x.f4 x.f5 x.f6 x.f7 x.f8 A9 c9 x.f9 x.f10 x.f11 _ _ ?s2 HX.out.1 ?s3 HX.out.2.2.1 ?s4 HX.out.2.2.2.2.1 ?s9 HX.out.2.2.2.2.2.2.1 HUB.out).mono ?_); (case s2 => exact Kd.C_below HX.out.2.1 HB5.out); (case s3 => exact Kd.C_below HX.out.2.2.2.1 HB5.out); (case s4 => exact Kd.C_below HX.out.2.2.2.2.2.1 HB5.out); (case s9 => exact Kd.C_below HX.out.2.2.2.2.2.2.2 HB5.out); rintro e w6 ⟨rfl, hb⟩; have BK6 := Aside0.mk (blk_below BK5.out hb); have HB6 := Aside0.mk (pw_below_trans HB5.out hb); clear hb; clear j0 j1 j2 j3 j4 j5 j6 j7 j8 j9 j10 j11; have j2 : w6.cell? ⟨wr.heap.size, 2, none⟩ = some (.slice A2 x.f2.length c2) := (blk_cell BK6.out 2).trans rfl))
            go_ret2
            exact ⟨rfl, pw_below_trans HB.out HB6.out⟩
          | true =>
            subst hubb
            simp only [Bool.true_eq_false, if_false] at hst
            by_cases hlx : 65536 < x.f2.length
            · rw [if_pos hlx] at hst
              simp only [Option.bind_some] at hst
              obtain ⟨rfl, rfl⟩ := Prod.mk.inj (Option.some.inj hst)
              clear hst
              have dx : decide (65536 < (x.f2.length : Int)) = true := decide_eq_true (by omega)
              clear hlx
              go_wp2_with (first | (go_at_call 53; (with_reducible refine (item_ranges.calls x.f0 x.f1 A2 c2 x.f2 A3 c3 x.f3 A4 c4 x.f4 x.f5 x.f6 x.f7 x.f8 A9 c9 x.f9 x.f10 x.f11 _ _ ?s2 HX.out.1 ?s3 HX.out.2.2.1 ?s4 HX.out.2.2.2.2.1 ?s9 HX.out.2.2.2.2.2.2.1 HRA.out).mono ?_); (case s2 => exact Kd.C_alloc (HX.out.2.1) _); (case s3 => exact Kd.C_alloc (HX.out.2.2.2.1) _); (case s4 => exact Kd.C_alloc (HX.out.2.2.2.2.2.1) _); (case s9 => exact Kd.C_alloc (HX.out.2.2.2.2.2.2.2) _); rintro e w5 ⟨rfl, hb⟩; have BK5 := Aside0.mk (blk_below (heap_alloc_new wr (.cells #[.int .i64 x.f0, .int .i64 x.f1, .slice A2 x.f2.length c2, .slice A3 x.f3.length c3, .slice A4 x.f4.length c4, .int .i64 x.f5, .int .i64 x.f6, .int .i64 x.f7, .int .i64 x.f8, .slice A9 x.f9.length c9, .int .i64 x.f10, .bool x.f11] 68)) hb); have HB5 := Aside0.mk (pw_below_trans (below_alloc (Below.refl _ _) _) hb); clear hb; have j0 : w5.cell? ⟨wr.heap.size, 0, none⟩ = some (.int .i64 x.f0) := (blk_cell BK5.out 0).trans rfl; have j1 : w5.cell? ⟨wr.heap.size, 1, none⟩ = some (.int .i64 x.f1) := (blk_cell BK5.out 1).trans rfl; have j2 : w5.cell? ⟨wr.heap.size, 2, none⟩ = some (.slice A2 x.f2.length c2) := (blk_cell BK5.out 2).trans rfl; have j3 : w5.cell? ⟨wr.heap.size, 3, none⟩ = some (.slice A3 x.f3.length c3) := (blk_cell BK5.out 3).trans rfl; have j4 : w5.cell? ⟨wr.heap.size, 4, none⟩ = some (.slice A4 x.f4.length c4) := (blk_cell BK5.out 4).trans rfl; have j5 : w5.cell? ⟨wr.heap.size, 5, none⟩ = some (.int .i64 x.f5) := (blk_cell BK5.out 5).trans rfl; have j6 : w5.cell? ⟨wr.heap.size, 6, none⟩ = some (.int .i64 x.f6) := (blk_cell BK5.out 6).trans rfl; have j7 : w5.cell? ⟨wr.heap.size, 7, none⟩ = some (.int .i64 x.f7) := (blk_cell BK5.out 7).trans rfl; have j8 : w5.cell? ⟨wr.heap.size, 8, none⟩ = some (.int .i64 x.f8) := (blk_cell BK5.out 8).trans rfl; have j9 : w5.cell? ⟨wr.heap.size, 9, none⟩ = some (.slice A9 x.f9.length c9) := (blk_cell BK5.out 9).trans rfl; have j10 : w5.cell? ⟨wr.heap.size, 10, none⟩ = some (.int .i64 x.f10) := (blk_cell BK5.out 10).trans rfl; have j11 : w5.cell? ⟨wr.heap.size, 11, none⟩ = some (.bool x.f11) := (blk_cell BK5.out 11).trans rfl) | (go_at_call 54; (with_reducible refine (item_unused.calls 4 x.f0 x.f1 A2 c2 x.f2 A3 c3 x.f3 A4 c4 x.f4 x.f5 x.f6 x.f7 x.f8 A9 c9 x.f9 x.f10 x.f11 _ _ ?s2 HX.out.1 ?s3 HX.out.2.2.1 ?s4 HX.out.2.2.2.2.1 ?s9 HX.out.2.2.2.2.2.2.1 HUB.out).mono ?_); (case s2 => exact Kd.C_below HX.out.2.1 HB5.out); (case s3 => exact Kd.C_below HX.out.2.2.2.1 HB5.out); (case s4 => exact Kd.C_below HX.out.2.2.2.2.2.1 HB5.out); (case s9 => exact Kd.C_below HX.out.2.2.2.2.2.2.2 HB5.out); rintro e w6 ⟨rfl, hb⟩; have BK6 := Aside0.mk (blk_below BK5.out hb); have HB6 := Aside0.mk (pw_below_trans HB5.out hb); clear hb; clear j0 j1 j2 j3 j4 j5 j6 j7 j8 j9 j10 j11; have j2 : w6.cell? ⟨wr.heap.size, 2, none⟩ = some (.slice A2 x.f2.length c2) := (blk_cell BK6.out 2).trans rfl))
              go_ret2
              exact ⟨rfl, pw_below_trans HB.out HB6.out⟩
            · rw [if_neg hlx] at hst
              have HST := Aside0.mk hst
              clear hst
              have dx : decide (65536 < (x.f2.length : Int)) = false := decide_eq_false (by omega)
              clear hlx
              go_wp2_with (first | (go_at_call 53; (with_reducible refine (item_ranges.calls x.f0 x.f1 A2 c2 x.f2 A3 c3 x.f3 A4 c4 x.f4 x.f5 x.f6 x.f7 x.f8 A9 c9 x.f9 x.f10 x.f11 _ _ ?s2 HX.out.1 ?s3 HX.out.2.2.1 ?s4 HX.out.2.2.2.2.1 ?s9 HX.out.2.2.2.2.2.2.1 HRA.out).mono ?_); (case s2 => exact Kd.C_alloc (HX.out.2.1) _); (case s3 => exact Kd.C_alloc (HX.out.2.2.2.1) _); (case s4 => exact Kd.C_alloc (HX.out.2.2.2.2.2.1) _); (case s9 => exact Kd.C_alloc (HX.out.2.2.2.2.2.2.2) _); rintro e w5 ⟨rfl, hb⟩; have BK5 := Aside0.mk (blk_below (heap_alloc_new wr (.cells #[.int .i64 x.f0, .int .i64 x.f1, .slice A2 x.f2.length c2, .slice A3 x.f3.length c3, .slice A4 x.f4.length c4, .int .i64 x.f5, .int .i64 x.f6, .int .i64 x.f7, .int .i64 x.f8, .slice A9 x.f9.length c9, .int .i64 x.f10, .bool x.f11] 68)) hb); have HB5 := Aside0.mk (pw_below_trans (below_alloc (Below.refl _ _) _) hb); clear hb; have j0 : w5.cell? ⟨wr.heap.size, 0, none⟩ = some (.int .i64 x.f0) := (blk_cell BK5.out 0).trans rfl; have j1 : w5.cell? ⟨wr.heap.size, 1, none⟩ = some (.int .i64 x.f1) := (blk_cell BK5.out 1).trans rfl; have j2 : w5.cell? ⟨wr.heap.size, 2, none⟩ = some (.slice A2 x.f2.length c2) := (blk_cell BK5.out 2).trans rfl; have j3 : w5.cell? ⟨wr.heap.size, 3, none⟩ = some (.slice A3 x.f3.length c3) := (blk_cell BK5.out 3).trans rfl; have j4 : w5.cell? ⟨wr.heap.size, 4, none⟩ = some (.slice A4 x.f4.length c4) := (blk_cell BK5.out 4).trans rfl; have j5 : w5.cell? ⟨wr.heap.size, 5, none⟩ = some (.int .i64 x.f5) := (blk_cell BK5.out 5).trans rfl; have j6 : w5.cell? ⟨wr.heap.size, 6, none⟩ = some (.int .i64 x.f6) := (blk_cell BK5.out 6).trans rfl; have j7 : w5.cell? ⟨wr.heap.size, 7, none⟩ = some (.int .i64 x.f7) := (blk_cell BK5.out 7).trans rfl; have j8 : w5.cell? ⟨wr.heap.size, 8, none⟩ = some (.int .i64 x.f8) := (blk_cell BK5.out 8).trans rfl; have j9 : w5.cell? ⟨wr.heap.size, 9, none⟩ = some (.slice A9 x.f9.length c9) := (blk_cell BK5.out 9).trans rfl; have j10 : w5.cell? ⟨wr.heap.size, 10, none⟩ = some (.int .i64 x.f10) := (blk_cell BK5.out 10).trans rfl; have j11 : w5.cell? ⟨wr.heap.size, 11, none⟩ = some (.bool x.f11) := (blk_cell BK5.out 11).trans rfl) | (go_at_call 54; (with_reducible refine (item_unused.calls 4 x.f0 x.f1 A2 c2 x.f2 A3 c3 x.f3 A4 c4 x.f4 x.f5 x.f6 x.f7 x.f8 A9 c9 x.f9 x.f10 x.f11 _ _ ?s2 HX.out.1 ?s3 HX.out.2.2.1 ?s4 HX.out.2.2.2.2.1 ?s9 HX.out.2.2.2.2.2.2.1 HUB.out).mono ?_); (case s2 => exact Kd.C_below HX.out.2.1 HB5.out); (case s3 => exact Kd.C_below HX.out.2.2.2.1 HB5.out); (case s4 => exact Kd.C_below HX.out.2.2.2.2.2.1 HB5.out); (case s9 => exact Kd.C_below HX.out.2.2.2.2.2.2.2 HB5.out); rintro e w6 ⟨rfl, hb⟩; have BK6 := Aside0.mk (blk_below BK5.out hb); have HB6 := Aside0.mk (pw_below_trans HB5.out hb); clear hb; clear j0 j1 j2 j3 j4 j5 j6 j7 j8 j9 j10 j11; have j2 : w6.cell? ⟨wr.heap.size, 2, none⟩ = some (.slice A2 x.f2.length c2) := (blk_cell BK6.out 2).trans rfl))
              go_roundg kq1
              case measure => omega
              case rel => exact ⟨i + 1, congrArg _ hw.out.1, ⟨by have := HI.out; omega, by have := HI.out; omega⟩, ⟨by rw [hw.out.2]; exact HST.out⟩, ⟨blk_below BKb.out HB6.out⟩, ⟨pw_below_trans HB.out HB6.out⟩⟩
end Go.Proofs.YtphkionjjhhhlaaGreat.Q
end
section
namespace Go.Proofs.YtphkionjjhhhlaaGreat.Q
open Go.RowKit Go.Proofs.YtphkionjjhhhlaaGreatW.PrintWords Go.Proofs.YtphkionjjhhhlaaGreatW.PrintLast Go.Proofs.YtphkionjjhhhlaaGreatW.PrintMore
mutual
def dioramaref15_Check.l0 : Nat → List (S68) → Int → Option (Int × Int)
  | 0, _, _ => none
  | k + 1, x0, x4 => if x4 < (x0.length : Int) then (if 0 ≤ x4 then ((dioramaref15_ranges.f k ((rd_T68 x0 x4).f0) ((rd_T68 x0 x4).f1) ((rd_T68 x0 x4).f2) ((rd_T68 x0 x4).f3) ((rd_T68 x0 x4).f4) ((rd_T68 x0 x4).f5) ((rd_T68 x0 x4).f6) ((rd_T68 x0 x4).f7) ((rd_T68 x0 x4).f8) ((rd_T68 x0 x4).f9) ((rd_T68 x0 x4).f10) ((rd_T68 x0 x4).f11)).bind fun t352 => (if t352 = true then ((dioramaref15_clean.f k ((rd_T68 x0 x4).f0) ((rd_T68 x0 x4).f1) ((rd_T68 x0 x4).f2) ((rd_T68 x0 x4).f3) ((rd_T68 x0 x4).f4) ((rd_T68 x0 x4).f5) ((rd_T68 x0 x4).f6) ((rd_T68 x0 x4).f7) ((rd_T68 x0 x4).f8) ((rd_T68 x0 x4).f9) ((rd_T68 x0 x4).f10) ((rd_T68 x0 x4).f11)).bind fun t354 => (if t354 = true then (dioramaref15_Check.l0 k x0 (wrap64 (x4 + 1))) else (some (4, x4)))) else (some (1, x4)))) else (none)) else (dioramaref15_Check.l1 k x0 0)
def dioramaref15_Check.l1 : Nat → List (S68) → Int → Option (Int × Int)
  | 0, _, _ => none
  | k + 1, x0, x5 => if x5 < (x0.length : Int) then (if 0 ≤ x5 then ((dioramaref15_find.f k x0 ((rd_T68 x0 x5).f0)).bind fun t356 => (if t356 = x5 then (dioramaref15_Check.l2 k x0 x5 0) else (some (30, x5)))) else (none)) else (dioramaref15_Check.l3 k x0 0)
def dioramaref15_Check.l2 : Nat → List (S68) → Int → Int → Option (Int × Int)
  | 0, _, _, _ => none
  | k + 1, x0, x5, x6 => if 0 ≤ x5 then (if x5 < (x0.length : Int) then (if x6 < (((rd_T68 x0 x5).f3).length : Int) then (if 0 ≤ x6 then ((dioramaref15_find.f k x0 (rd ((rd_T68 x0 x5).f3) x6)).bind fun t360 => (if t360 < 0 then (some (5, x5)) else (dioramaref15_Check.l2 k x0 x5 (wrap64 (x6 + 1))))) else (none)) else (dioramaref15_Check.l1 k x0 (wrap64 (x5 + 1)))) else (none)) else (none)
def dioramaref15_Check.l3 : Nat → List (S68) → Int → Option (Int × Int)
  | 0, _, _ => none
  | k + 1, x0, x7 => if x7 < (x0.length : Int) then ((dioramaref15_reached.f k x0 x7).bind fun t361 => (if 0 ≤ x7 then (if x7 < (t361.length : Int) then (if rdOf false t361 x7 = true then (some (150, x7)) else (dioramaref15_Check.l3 k x0 (wrap64 (x7 + 1)))) else (none)) else (none))) else (some (0, (-1)))
end
def dioramaref15_Check.f (k : Nat) (l0 : List (S68)) : Option (Int × Int) := if (l0.length : Int) > 12 then (some (2, (-1))) else (dioramaref15_Check.l0 k l0 0)
set_option maxHeartbeats 8000000 in
set_option maxRecDepth 100000 in
theorem dioramaref15_Check.calls (k : Nat) (A0 : Option Addr) (c0 : Nat) (l0 : List (S68)) (r1 : Int) (r2 : Int) (w : World) (hr0 : Kd.C k68 w A0 l0.length l0) (hc0 : l0.length ≤ c0) (h : dioramaref15_Check.f k l0 = some (r1, r2)) :
    Calls Tryz.prog 20 #[.slice A0 l0.length c0] w fun e w' => e = .returned (.tuple #[.int .i64 r1, .int .i64 r2]) ∧ Below w.heap.size w w' := by
  have hu68 := Tryz.underlying68
  have HR0 := Aside0.mk hr0
  have HC0 := Aside0.mk hc0
  clear hr0 hc0
  have HB := Aside0.mk (Below.refl w.heap.size w)
  have H : (if (l0.length : Int) > 12 then (some (2, (-1))) else (dioramaref15_Check.l0 k l0 0)) = some (r1, r2) := h
  clear h
  by_cases c2 : (l0.length : Int) > 12
  · rw [if_pos c2] at H
    have c2b0 : decide (12 < (l0.length : Int)) = true := decide_eq_true c2
    have c2b1 : decide (12 < l0.length) = true := decide_eq_true (by omega)
    clear c2
    simp only [Option.some.injEq, Prod.mk.injEq] at H
    obtain ⟨rfl, rfl⟩ := H
    go_enter Tryz.func20, Tryz.ntmps20
    go_wp2
    go_ret2
    exact ⟨by first | rfl | (simp [errW_none, errW_some] <;> rfl) | (simp [*, errW_none, errW_some] <;> rfl), by repeat (first | (with_reducible first | exact HB.out | apply below_alloc | apply pw_below_drewN | apply below_drew1) | exact HB.out)⟩
  · rw [if_neg c2] at H
    have c2b0 : decide (12 < (l0.length : Int)) = false := decide_eq_false c2
    have c2b1 : decide (12 < l0.length) = false := decide_eq_false (by omega)
    clear c2
    have H' := Aside0.mk H
    clear H
    go_enter Tryz.func20, Tryz.ntmps20
    go_wp2
    go_loopg [4] k (fun kq v4 w' => ∃ (x4_1 : Int), v4 = .int .i64 x4_1 ∧ Aside0 (dioramaref15_Check.l0 kq l0 x4_1 = some (r1, r2)) ∧ Aside0 (kq ≤ k) ∧ Aside0 (Below w.heap.size w w'))
    case atStart => exact ⟨(0), (by first | rfl | (simp; done) | (simp [*]; done)), H', ⟨Nat.le_refl _⟩, ⟨by repeat (first | (with_reducible first | exact HB.out | apply below_alloc | apply pw_below_drewN | apply below_drew1) | exact HB.out)⟩⟩
    case round =>
      clear H'
      try clear c2
      try clear c2b0
      try clear c2b1
      try clear p2
      obtain ⟨x4_1, rfl, HA, HK1, HB⟩ := hrel
      cases gk with
      | zero => exact absurd HA.out (by simp [dioramaref15_Check.l0])
      | succ k1 =>
        have H := HA.out
        clear HA
        simp only [dioramaref15_Check.l0] at H
        by_cases c3 : x4_1 < (l0.length : Int)
        · rw [if_pos c3] at H
          have c3b0 : decide (x4_1 < (l0.length : Int)) = true := decide_eq_true c3
          clear c3
          by_cases c4 : 0 ≤ x4_1
          · rw [if_pos c4] at H
            have c4b0 : decide (0 ≤ x4_1) = true := decide_eq_true c4
            clear c4
            replace H := Option.bind_eq_some_iff.mp H
            obtain ⟨t352, A50, H⟩ := H
            replace H : (if t352 = true then ((dioramaref15_clean.f k1 ((rd_T68 l0 x4_1).f0) ((rd_T68 l0 x4_1).f1) ((rd_T68 l0 x4_1).f2) ((rd_T68 l0 x4_1).f3) ((rd_T68 l0 x4_1).f4) ((rd_T68 l0 x4_1).f5) ((rd_T68 l0 x4_1).f6) ((rd_T68 l0 x4_1).f7) ((rd_T68 l0 x4_1).f8) ((rd_T68 l0 x4_1).f9) ((rd_T68 l0 x4_1).f10) ((rd_T68 l0 x4_1).f11)).bind fun t354 => (if t354 = true then (dioramaref15_Check.l0 k1 l0 (wrap64 (x4_1 + 1))) else (some (4, x4_1)))) else (some (1, x4_1))) = some (r1, r2) := H
            have A5 := Aside0.mk A50
            clear A50
            by_cases c6 : t352 = true
            · subst c6
              have H1 : ((dioramaref15_clean.f k1 ((rd_T68 l0 x4_1).f0) ((rd_T68 l0 x4_1).f1) ((rd_T68 l0 x4_1).f2) ((rd_T68 l0 x4_1).f3) ((rd_T68 l0 x4_1).f4) ((rd_T68 l0 x4_1).f5) ((rd_T68 l0 x4_1).f6) ((rd_T68 l0 x4_1).f7) ((rd_T68 l0 x4_1).f8) ((rd_T68 l0 x4_1).f9) ((rd_T68 l0 x4_1).f10) ((rd_T68 l0 x4_1).f11)).bind fun t354 => (if t354 = true then (dioramaref15_Check.l0 k1 l0 (wrap64 (x4_1 + 1))) else (some (4, x4_1)))) = some (r1, r2) := by rw [if_pos rfl] at H; exact H
              clear H
              have H := H1
              clear H1
              replace H := Option.bind_eq_some_iff.mp H
              obtain ⟨t354, A70, H⟩ := H
              replace H : (if t354 = true then (dioramaref15_Check.l0 k1 l0 (wrap64 (x4_1 + 1))) else (some (4, x4_1))) = some (r1, r2) := H
              have A7 := Aside0.mk A70
              clear A70
              by_cases c8 : t354 = true
              · subst c8
                have H1 : (dioramaref15_Check.l0 k1 l0 (wrap64 (x4_1 + 1))) = some (r1, r2) := by rw [if_pos rfl] at H; exact H
                clear H
                have H := H1
                clear H1
                have H' := Aside0.mk H
                clear H
                have p351 : 0 ≤ (x4_1 : Int) := of_decide_eq_true (by first | (with_reducible assumption) | assumption)
                have q351 : x4_1 < (l0.length : Int) := of_decide_eq_true (by first | (with_reducible assumption) | assumption)
                obtain ⟨ad351, A351_2, c351_2, A351_3, c351_3, A351_4, c351_4, A351_9, c351_9, e351, hx351_0, hx351_1, hx351_2, hx351_3, hx351_4, hx351_5, hx351_6, hx351_7, hx351_8, hx351_9, hx351_10, hx351_11, hl351_2, hi351_2, hl351_3, hi351_3, hl351_4, hi351_4, hl351_9, hi351_9⟩ := at_T68 HR0.out x4_1 p351 q351
                cases e351
                replace hx351_0 := (HB.out.cell (World.block_lt_of_cell? w _ hx351_0)).trans hx351_0
                replace hx351_1 := (HB.out.cell (World.block_lt_of_cell? w _ hx351_1)).trans hx351_1
                replace hx351_2 := (HB.out.cell (World.block_lt_of_cell? w _ hx351_2)).trans hx351_2
                replace hx351_3 := (HB.out.cell (World.block_lt_of_cell? w _ hx351_3)).trans hx351_3
                replace hx351_4 := (HB.out.cell (World.block_lt_of_cell? w _ hx351_4)).trans hx351_4
                replace hx351_5 := (HB.out.cell (World.block_lt_of_cell? w _ hx351_5)).trans hx351_5
                replace hx351_6 := (HB.out.cell (World.block_lt_of_cell? w _ hx351_6)).trans hx351_6
                replace hx351_7 := (HB.out.cell (World.block_lt_of_cell? w _ hx351_7)).trans hx351_7
                replace hx351_8 := (HB.out.cell (World.block_lt_of_cell? w _ hx351_8)).trans hx351_8
                replace hx351_9 := (HB.out.cell (World.block_lt_of_cell? w _ hx351_9)).trans hx351_9
                replace hx351_10 := (HB.out.cell (World.block_lt_of_cell? w _ hx351_10)).trans hx351_10
                replace hx351_11 := (HB.out.cell (World.block_lt_of_cell? w _ hx351_11)).trans hx351_11
                have HR351_2 := Aside0.mk hi351_2
                have HC351_2 := Aside0.mk hl351_2
                clear hi351_2 hl351_2
                have HR351_3 := Aside0.mk hi351_3
                have HC351_3 := Aside0.mk hl351_3
                clear hi351_3 hl351_3
                have HR351_4 := Aside0.mk hi351_4
                have HC351_4 := Aside0.mk hl351_4
                clear hi351_4 hl351_4
                have HR351_9 := Aside0.mk hi351_9
                have HC351_9 := Aside0.mk hl351_9
                clear hi351_9 hl351_9
                replace p351 := eq_true p351
                replace q351 := eq_true q351
                go_wp2_with (first | ((with_reducible refine gate_callee (f := 59) rfl ?_); refine goesL_ (some 21) rfl rfl Tryz.func59 (by kernel_rfl) rfl #[.agg #[.int .i64 ((rd_T68 l0 x4_1).f0), .int .i64 ((rd_T68 l0 x4_1).f1), .slice A351_2 ((rd_T68 l0 x4_1).f2).length c351_2, .slice A351_3 ((rd_T68 l0 x4_1).f3).length c351_3, .slice A351_4 ((rd_T68 l0 x4_1).f4).length c351_4, .int .i64 ((rd_T68 l0 x4_1).f5), .int .i64 ((rd_T68 l0 x4_1).f6), .int .i64 ((rd_T68 l0 x4_1).f7), .int .i64 ((rd_T68 l0 x4_1).f8), .slice A351_9 ((rd_T68 l0 x4_1).f9).length c351_9, .int .i64 ((rd_T68 l0 x4_1).f10), .bool ((rd_T68 l0 x4_1).f11)]] rfl (by (try simp only [List.map_toArray, List.map_cons, List.map_nil]); first | done | rfl | (simp only [List.length_drop, List.length_take]; rfl)) ?_; (with_reducible refine (dioramaref15_ranges.calls k1 ((rd_T68 l0 x4_1).f0) ((rd_T68 l0 x4_1).f1) _ _ ((rd_T68 l0 x4_1).f2) _ _ ((rd_T68 l0 x4_1).f3) _ _ ((rd_T68 l0 x4_1).f4) ((rd_T68 l0 x4_1).f5) ((rd_T68 l0 x4_1).f6) ((rd_T68 l0 x4_1).f7) ((rd_T68 l0 x4_1).f8) _ _ ((rd_T68 l0 x4_1).f9) ((rd_T68 l0 x4_1).f10) ((rd_T68 l0 x4_1).f11) true _ ?side1 ?side2 ?side3 ?side4 ?side5 ?side6 ?side7 ?side8 A5.out).mono ?_); (case side1 => repeat (first | exact (Kd.C_below HR351_2.out HB.out) | (with_reducible refine Kd.C_alloc ?_ _) | (with_reducible refine Kd.C_drewN ?_ _) | (with_reducible refine Kd.C_drew ?_))); (case side2 => exact HC351_2.out); (case side3 => repeat (first | exact (Kd.C_below HR351_3.out HB.out) | (with_reducible refine Kd.C_alloc ?_ _) | (with_reducible refine Kd.C_drewN ?_ _) | (with_reducible refine Kd.C_drew ?_))); (case side4 => exact HC351_3.out); (case side5 => repeat (first | exact (Kd.C_below HR351_4.out HB.out) | (with_reducible refine Kd.C_alloc ?_ _) | (with_reducible refine Kd.C_drewN ?_ _) | (with_reducible refine Kd.C_drew ?_))); (case side6 => exact HC351_4.out); (case side7 => repeat (first | exact (Kd.C_below HR351_9.out HB.out) | (with_reducible refine Kd.C_alloc ?_ _) | (with_reducible refine Kd.C_drewN ?_ _) | (with_reducible refine Kd.C_drew ?_))); (case side8 => exact HC351_9.out); rintro e w9 ⟨rfl, hb⟩; refine ⟨_, rfl, ?_⟩; have n0_ := Aside0.mk (below_step (by repeat (first | (with_reducible first | exact HB.out | apply below_alloc | apply pw_below_drewN | apply below_drew1) | exact HB.out)) hb); clear HB; have HB := n0_; clear n0_; (try clear hb); (try clear hb2); (try clear hk); (try clear hi); have p353 : 0 ≤ (x4_1 : Int) := of_decide_eq_true (by first | (with_reducible assumption) | assumption); have q353 : x4_1 < (l0.length : Int) := of_decide_eq_true (by first | (with_reducible assumption) | assumption); obtain ⟨ad353, A353_2, c353_2, A353_3, c353_3, A353_4, c353_4, A353_9, c353_9, e353, hx353_0, hx353_1, hx353_2, hx353_3, hx353_4, hx353_5, hx353_6, hx353_7, hx353_8, hx353_9, hx353_10, hx353_11, hl353_2, hi353_2, hl353_3, hi353_3, hl353_4, hi353_4, hl353_9, hi353_9⟩ := at_T68 HR0.out x4_1 p353 q353; obtain rfl : ad351 = ad353 := (by injection e353); replace hx353_0 := (HB.out.cell (World.block_lt_of_cell? w _ hx353_0)).trans hx353_0; replace hx353_1 := (HB.out.cell (World.block_lt_of_cell? w _ hx353_1)).trans hx353_1; replace hx353_2 := (HB.out.cell (World.block_lt_of_cell? w _ hx353_2)).trans hx353_2; replace hx353_3 := (HB.out.cell (World.block_lt_of_cell? w _ hx353_3)).trans hx353_3; replace hx353_4 := (HB.out.cell (World.block_lt_of_cell? w _ hx353_4)).trans hx353_4; replace hx353_5 := (HB.out.cell (World.block_lt_of_cell? w _ hx353_5)).trans hx353_5; replace hx353_6 := (HB.out.cell (World.block_lt_of_cell? w _ hx353_6)).trans hx353_6; replace hx353_7 := (HB.out.cell (World.block_lt_of_cell? w _ hx353_7)).trans hx353_7; replace hx353_8 := (HB.out.cell (World.block_lt_of_cell? w _ hx353_8)).trans hx353_8; replace hx353_9 := (HB.out.cell (World.block_lt_of_cell? w _ hx353_9)).trans hx353_9; replace hx353_10 := (HB.out.cell (World.block_lt_of_cell? w _ hx353_10)).trans hx353_10; replace hx353_11 := (HB.out.cell (World.block_lt_of_cell? w _ hx353_11)).trans hx353_11; have HR353_2 := Aside0.mk hi353_2; have HC353_2 := Aside0.mk hl353_2; clear hi353_2 hl353_2; have HR353_3 := Aside0.mk hi353_3; have HC353_3 := Aside0.mk hl353_3; clear hi353_3 hl353_3; have HR353_4 := Aside0.mk hi353_4; have HC353_4 := Aside0.mk hl353_4; clear hi353_4 hl353_4; have HR353_9 := Aside0.mk hi353_9; have HC353_9 := Aside0.mk hl353_9; clear hi353_9 hl353_9; replace p353 := eq_true p353; replace q353 := eq_true q353) | ((with_reducible refine gate_callee (f := 60) rfl ?_); refine goesL_ (some 28) rfl rfl Tryz.func60 (by kernel_rfl) rfl #[.agg #[.int .i64 ((rd_T68 l0 x4_1).f0), .int .i64 ((rd_T68 l0 x4_1).f1), .slice A353_2 ((rd_T68 l0 x4_1).f2).length c353_2, .slice A353_3 ((rd_T68 l0 x4_1).f3).length c353_3, .slice A353_4 ((rd_T68 l0 x4_1).f4).length c353_4, .int .i64 ((rd_T68 l0 x4_1).f5), .int .i64 ((rd_T68 l0 x4_1).f6), .int .i64 ((rd_T68 l0 x4_1).f7), .int .i64 ((rd_T68 l0 x4_1).f8), .slice A353_9 ((rd_T68 l0 x4_1).f9).length c353_9, .int .i64 ((rd_T68 l0 x4_1).f10), .bool ((rd_T68 l0 x4_1).f11)]] rfl (by (try simp only [List.map_toArray, List.map_cons, List.map_nil]); first | done | rfl | (simp only [List.length_drop, List.length_take]; rfl)) ?_; (with_reducible refine (dioramaref15_clean.calls k1 ((rd_T68 l0 x4_1).f0) ((rd_T68 l0 x4_1).f1) _ _ ((rd_T68 l0 x4_1).f2) _ _ ((rd_T68 l0 x4_1).f3) _ _ ((rd_T68 l0 x4_1).f4) ((rd_T68 l0 x4_1).f5) ((rd_T68 l0 x4_1).f6) ((rd_T68 l0 x4_1).f7) ((rd_T68 l0 x4_1).f8) _ _ ((rd_T68 l0 x4_1).f9) ((rd_T68 l0 x4_1).f10) ((rd_T68 l0 x4_1).f11) true _ ?side1 ?side2 ?side3 ?side4 ?side5 ?side6 ?side7 ?side8 A7.out).mono ?_); (case side1 => repeat (first | exact (Kd.C_below HR353_2.out HB.out) | (with_reducible refine Kd.C_alloc ?_ _) | (with_reducible refine Kd.C_drewN ?_ _) | (with_reducible refine Kd.C_drew ?_))); (case side2 => exact HC353_2.out); (case side3 => repeat (first | exact (Kd.C_below HR353_3.out HB.out) | (with_reducible refine Kd.C_alloc ?_ _) | (with_reducible refine Kd.C_drewN ?_ _) | (with_reducible refine Kd.C_drew ?_))); (case side4 => exact HC353_3.out); (case side5 => repeat (first | exact (Kd.C_below HR353_4.out HB.out) | (with_reducible refine Kd.C_alloc ?_ _) | (with_reducible refine Kd.C_drewN ?_ _) | (with_reducible refine Kd.C_drew ?_))); (case side6 => exact HC353_4.out); (case side7 => repeat (first | exact (Kd.C_below HR353_9.out HB.out) | (with_reducible refine Kd.C_alloc ?_ _) | (with_reducible refine Kd.C_drewN ?_ _) | (with_reducible refine Kd.C_drew ?_))); (case side8 => exact HC353_9.out); rintro e w10 ⟨rfl, hb⟩; refine ⟨_, rfl, ?_⟩; have n0_ := Aside0.mk (below_step (by repeat (first | (with_reducible first | exact HB.out | apply below_alloc | apply pw_below_drewN | apply below_drew1) | exact HB.out)) hb); clear HB; have HB := n0_; clear n0_; (try clear hb); (try clear hb2); (try clear hk); (try clear hi)))
                go_roundg k1
                case measure => have := HK1.out; omega
                case rel => exact ⟨(wrap64 (x4_1 + 1)), (by first | rfl | (simp; done) | (simp [*]; done)), H', ⟨by have := HK1.out; omega⟩, ⟨by repeat (first | (with_reducible first | exact HB.out | apply below_alloc | apply pw_below_drewN | apply below_drew1) | exact HB.out)⟩⟩
              · replace c8 := Bool.eq_false_iff.mpr c8
                subst c8
                have H1 : (some (4, x4_1)) = some (r1, r2) := by rw [if_neg (show ¬ (false = true) by decide)] at H; exact H
                clear H
                have H := H1
                clear H1
                simp only [Option.some.injEq, Prod.mk.injEq] at H
                obtain ⟨rfl, rfl⟩ := H
                have p351 : 0 ≤ (x4_1 : Int) := of_decide_eq_true (by first | (with_reducible assumption) | assumption)
                have q351 : x4_1 < (l0.length : Int) := of_decide_eq_true (by first | (with_reducible assumption) | assumption)
                obtain ⟨ad351, A351_2, c351_2, A351_3, c351_3, A351_4, c351_4, A351_9, c351_9, e351, hx351_0, hx351_1, hx351_2, hx351_3, hx351_4, hx351_5, hx351_6, hx351_7, hx351_8, hx351_9, hx351_10, hx351_11, hl351_2, hi351_2, hl351_3, hi351_3, hl351_4, hi351_4, hl351_9, hi351_9⟩ := at_T68 HR0.out x4_1 p351 q351
                cases e351
                replace hx351_0 := (HB.out.cell (World.block_lt_of_cell? w _ hx351_0)).trans hx351_0
                replace hx351_1 := (HB.out.cell (World.block_lt_of_cell? w _ hx351_1)).trans hx351_1
                replace hx351_2 := (HB.out.cell (World.block_lt_of_cell? w _ hx351_2)).trans hx351_2
                replace hx351_3 := (HB.out.cell (World.block_lt_of_cell? w _ hx351_3)).trans hx351_3
                replace hx351_4 := (HB.out.cell (World.block_lt_of_cell? w _ hx351_4)).trans hx351_4
                replace hx351_5 := (HB.out.cell (World.block_lt_of_cell? w _ hx351_5)).trans hx351_5
                replace hx351_6 := (HB.out.cell (World.block_lt_of_cell? w _ hx351_6)).trans hx351_6
                replace hx351_7 := (HB.out.cell (World.block_lt_of_cell? w _ hx351_7)).trans hx351_7
                replace hx351_8 := (HB.out.cell (World.block_lt_of_cell? w _ hx351_8)).trans hx351_8
                replace hx351_9 := (HB.out.cell (World.block_lt_of_cell? w _ hx351_9)).trans hx351_9
                replace hx351_10 := (HB.out.cell (World.block_lt_of_cell? w _ hx351_10)).trans hx351_10
                replace hx351_11 := (HB.out.cell (World.block_lt_of_cell? w _ hx351_11)).trans hx351_11
                have HR351_2 := Aside0.mk hi351_2
                have HC351_2 := Aside0.mk hl351_2
                clear hi351_2 hl351_2
                have HR351_3 := Aside0.mk hi351_3
                have HC351_3 := Aside0.mk hl351_3
                clear hi351_3 hl351_3
                have HR351_4 := Aside0.mk hi351_4
                have HC351_4 := Aside0.mk hl351_4
                clear hi351_4 hl351_4
                have HR351_9 := Aside0.mk hi351_9
                have HC351_9 := Aside0.mk hl351_9
                clear hi351_9 hl351_9
                replace p351 := eq_true p351
                replace q351 := eq_true q351
                go_wp2_with (first | ((with_reducible refine gate_callee (f := 59) rfl ?_); refine goesL_ (some 21) rfl rfl Tryz.func59 (by kernel_rfl) rfl #[.agg #[.int .i64 ((rd_T68 l0 x4_1).f0), .int .i64 ((rd_T68 l0 x4_1).f1), .slice A351_2 ((rd_T68 l0 x4_1).f2).length c351_2, .slice A351_3 ((rd_T68 l0 x4_1).f3).length c351_3, .slice A351_4 ((rd_T68 l0 x4_1).f4).length c351_4, .int .i64 ((rd_T68 l0 x4_1).f5), .int .i64 ((rd_T68 l0 x4_1).f6), .int .i64 ((rd_T68 l0 x4_1).f7), .int .i64 ((rd_T68 l0 x4_1).f8), .slice A351_9 ((rd_T68 l0 x4_1).f9).length c351_9, .int .i64 ((rd_T68 l0 x4_1).f10), .bool ((rd_T68 l0 x4_1).f11)]] rfl (by (try simp only [List.map_toArray, List.map_cons, List.map_nil]); first | done | rfl | (simp only [List.length_drop, List.length_take]; rfl)) ?_; (with_reducible refine (dioramaref15_ranges.calls k1 ((rd_T68 l0 x4_1).f0) ((rd_T68 l0 x4_1).f1) _ _ ((rd_T68 l0 x4_1).f2) _ _ ((rd_T68 l0 x4_1).f3) _ _ ((rd_T68 l0 x4_1).f4) ((rd_T68 l0 x4_1).f5) ((rd_T68 l0 x4_1).f6) ((rd_T68 l0 x4_1).f7) ((rd_T68 l0 x4_1).f8) _ _ ((rd_T68 l0 x4_1).f9) ((rd_T68 l0 x4_1).f10) ((rd_T68 l0 x4_1).f11) true _ ?side1 ?side2 ?side3 ?side4 ?side5 ?side6 ?side7 ?side8 A5.out).mono ?_); (case side1 => repeat (first | exact (Kd.C_below HR351_2.out HB.out) | (with_reducible refine Kd.C_alloc ?_ _) | (with_reducible refine Kd.C_drewN ?_ _) | (with_reducible refine Kd.C_drew ?_))); (case side2 => exact HC351_2.out); (case side3 => repeat (first | exact (Kd.C_below HR351_3.out HB.out) | (with_reducible refine Kd.C_alloc ?_ _) | (with_reducible refine Kd.C_drewN ?_ _) | (with_reducible refine Kd.C_drew ?_))); (case side4 => exact HC351_3.out); (case side5 => repeat (first | exact (Kd.C_below HR351_4.out HB.out) | (with_reducible refine Kd.C_alloc ?_ _) | (with_reducible refine Kd.C_drewN ?_ _) | (with_reducible refine Kd.C_drew ?_))); (case side6 => exact HC351_4.out); (case side7 => repeat (first | exact (Kd.C_below HR351_9.out HB.out) | (with_reducible refine Kd.C_alloc ?_ _) | (with_reducible refine Kd.C_drewN ?_ _) | (with_reducible refine Kd.C_drew ?_))); (case side8 => exact HC351_9.out); rintro e w11 ⟨rfl, hb⟩; refine ⟨_, rfl, ?_⟩; have n0_ := Aside0.mk (below_step (by repeat (first | (with_reducible first | exact HB.out | apply below_alloc | apply pw_below_drewN | apply below_drew1) | exact HB.out)) hb); clear HB; have HB := n0_; clear n0_; (try clear hb); (try clear hb2); (try clear hk); (try clear hi); have p353 : 0 ≤ (x4_1 : Int) := of_decide_eq_true (by first | (with_reducible assumption) | assumption); have q353 : x4_1 < (l0.length : Int) := of_decide_eq_true (by first | (with_reducible assumption) | assumption); obtain ⟨ad353, A353_2, c353_2, A353_3, c353_3, A353_4, c353_4, A353_9, c353_9, e353, hx353_0, hx353_1, hx353_2, hx353_3, hx353_4, hx353_5, hx353_6, hx353_7, hx353_8, hx353_9, hx353_10, hx353_11, hl353_2, hi353_2, hl353_3, hi353_3, hl353_4, hi353_4, hl353_9, hi353_9⟩ := at_T68 HR0.out x4_1 p353 q353; obtain rfl : ad351 = ad353 := (by injection e353); replace hx353_0 := (HB.out.cell (World.block_lt_of_cell? w _ hx353_0)).trans hx353_0; replace hx353_1 := (HB.out.cell (World.block_lt_of_cell? w _ hx353_1)).trans hx353_1; replace hx353_2 := (HB.out.cell (World.block_lt_of_cell? w _ hx353_2)).trans hx353_2; replace hx353_3 := (HB.out.cell (World.block_lt_of_cell? w _ hx353_3)).trans hx353_3; replace hx353_4 := (HB.out.cell (World.block_lt_of_cell? w _ hx353_4)).trans hx353_4; replace hx353_5 := (HB.out.cell (World.block_lt_of_cell? w _ hx353_5)).trans hx353_5; replace hx353_6 := (HB.out.cell (World.block_lt_of_cell? w _ hx353_6)).trans hx353_6; replace hx353_7 := (HB.out.cell (World.block_lt_of_cell? w _ hx353_7)).trans hx353_7; replace hx353_8 := (HB.out.cell (World.block_lt_of_cell? w _ hx353_8)).trans hx353_8; replace hx353_9 := (HB.out.cell (World.block_lt_of_cell? w _ hx353_9)).trans hx353_9; replace hx353_10 := (HB.out.cell (World.block_lt_of_cell? w _ hx353_10)).trans hx353_10; replace hx353_11 := (HB.out.cell (World.block_lt_of_cell? w _ hx353_11)).trans hx353_11; have HR353_2 := Aside0.mk hi353_2; have HC353_2 := Aside0.mk hl353_2; clear hi353_2 hl353_2; have HR353_3 := Aside0.mk hi353_3; have HC353_3 := Aside0.mk hl353_3; clear hi353_3 hl353_3; have HR353_4 := Aside0.mk hi353_4; have HC353_4 := Aside0.mk hl353_4; clear hi353_4 hl353_4; have HR353_9 := Aside0.mk hi353_9; have HC353_9 := Aside0.mk hl353_9; clear hi353_9 hl353_9; replace p353 := eq_true p353; replace q353 := eq_true q353) | ((with_reducible refine gate_callee (f := 60) rfl ?_); refine goesL_ (some 28) rfl rfl Tryz.func60 (by kernel_rfl) rfl #[.agg #[.int .i64 ((rd_T68 l0 x4_1).f0), .int .i64 ((rd_T68 l0 x4_1).f1), .slice A353_2 ((rd_T68 l0 x4_1).f2).length c353_2, .slice A353_3 ((rd_T68 l0 x4_1).f3).length c353_3, .slice A353_4 ((rd_T68 l0 x4_1).f4).length c353_4, .int .i64 ((rd_T68 l0 x4_1).f5), .int .i64 ((rd_T68 l0 x4_1).f6), .int .i64 ((rd_T68 l0 x4_1).f7), .int .i64 ((rd_T68 l0 x4_1).f8), .slice A353_9 ((rd_T68 l0 x4_1).f9).length c353_9, .int .i64 ((rd_T68 l0 x4_1).f10), .bool ((rd_T68 l0 x4_1).f11)]] rfl (by (try simp only [List.map_toArray, List.map_cons, List.map_nil]); first | done | rfl | (simp only [List.length_drop, List.length_take]; rfl)) ?_; (with_reducible refine (dioramaref15_clean.calls k1 ((rd_T68 l0 x4_1).f0) ((rd_T68 l0 x4_1).f1) _ _ ((rd_T68 l0 x4_1).f2) _ _ ((rd_T68 l0 x4_1).f3) _ _ ((rd_T68 l0 x4_1).f4) ((rd_T68 l0 x4_1).f5) ((rd_T68 l0 x4_1).f6) ((rd_T68 l0 x4_1).f7) ((rd_T68 l0 x4_1).f8) _ _ ((rd_T68 l0 x4_1).f9) ((rd_T68 l0 x4_1).f10) ((rd_T68 l0 x4_1).f11) false _ ?side1 ?side2 ?side3 ?side4 ?side5 ?side6 ?side7 ?side8 A7.out).mono ?_); (case side1 => repeat (first | exact (Kd.C_below HR353_2.out HB.out) | (with_reducible refine Kd.C_alloc ?_ _) | (with_reducible refine Kd.C_drewN ?_ _) | (with_reducible refine Kd.C_drew ?_))); (case side2 => exact HC353_2.out); (case side3 => repeat (first | exact (Kd.C_below HR353_3.out HB.out) | (with_reducible refine Kd.C_alloc ?_ _) | (with_reducible refine Kd.C_drewN ?_ _) | (with_reducible refine Kd.C_drew ?_))); (case side4 => exact HC353_3.out); (case side5 => repeat (first | exact (Kd.C_below HR353_4.out HB.out) | (with_reducible refine Kd.C_alloc ?_ _) | (with_reducible refine Kd.C_drewN ?_ _) | (with_reducible refine Kd.C_drew ?_))); (case side6 => exact HC353_4.out); (case side7 => repeat (first | exact (Kd.C_below HR353_9.out HB.out) | (with_reducible refine Kd.C_alloc ?_ _) | (with_reducible refine Kd.C_drewN ?_ _) | (with_reducible refine Kd.C_drew ?_))); (case side8 => exact HC353_9.out); rintro e w12 ⟨rfl, hb⟩; refine ⟨_, rfl, ?_⟩; have n0_ := Aside0.mk (below_step (by repeat (first | (with_reducible first | exact HB.out | apply below_alloc | apply pw_below_drewN | apply below_drew1) | exact HB.out)) hb); clear HB; have HB := n0_; clear n0_; (try clear hb); (try clear hb2); (try clear hk); (try clear hi)))
                go_ret2
                exact ⟨by first | rfl | (simp [errW_none, errW_some] <;> rfl) | (simp [*, errW_none, errW_some] <;> rfl), by repeat (first | (with_reducible first | exact HB.out | apply below_alloc | apply pw_below_drewN | apply below_drew1) | exact HB.out)⟩
            · replace c6 := Bool.eq_false_iff.mpr c6
              subst c6
              have H1 : (some (1, x4_1)) = some (r1, r2) := by rw [if_neg (show ¬ (false = true) by decide)] at H; exact H
              clear H
              have H := H1
              clear H1
              simp only [Option.some.injEq, Prod.mk.injEq] at H
              obtain ⟨rfl, rfl⟩ := H
              have p351 : 0 ≤ (x4_1 : Int) := of_decide_eq_true (by first | (with_reducible assumption) | assumption)
              have q351 : x4_1 < (l0.length : Int) := of_decide_eq_true (by first | (with_reducible assumption) | assumption)
              obtain ⟨ad351, A351_2, c351_2, A351_3, c351_3, A351_4, c351_4, A351_9, c351_9, e351, hx351_0, hx351_1, hx351_2, hx351_3, hx351_4, hx351_5, hx351_6, hx351_7, hx351_8, hx351_9, hx351_10, hx351_11, hl351_2, hi351_2, hl351_3, hi351_3, hl351_4, hi351_4, hl351_9, hi351_9⟩ := at_T68 HR0.out x4_1 p351 q351
              cases e351
              replace hx351_0 := (HB.out.cell (World.block_lt_of_cell? w _ hx351_0)).trans hx351_0
              replace hx351_1 := (HB.out.cell (World.block_lt_of_cell? w _ hx351_1)).trans hx351_1
              replace hx351_2 := (HB.out.cell (World.block_lt_of_cell? w _ hx351_2)).trans hx351_2
              replace hx351_3 := (HB.out.cell (World.block_lt_of_cell? w _ hx351_3)).trans hx351_3
              replace hx351_4 := (HB.out.cell (World.block_lt_of_cell? w _ hx351_4)).trans hx351_4
              replace hx351_5 := (HB.out.cell (World.block_lt_of_cell? w _ hx351_5)).trans hx351_5
              replace hx351_6 := (HB.out.cell (World.block_lt_of_cell? w _ hx351_6)).trans hx351_6
              replace hx351_7 := (HB.out.cell (World.block_lt_of_cell? w _ hx351_7)).trans hx351_7
              replace hx351_8 := (HB.out.cell (World.block_lt_of_cell? w _ hx351_8)).trans hx351_8
              replace hx351_9 := (HB.out.cell (World.block_lt_of_cell? w _ hx351_9)).trans hx351_9
              replace hx351_10 := (HB.out.cell (World.block_lt_of_cell? w _ hx351_10)).trans hx351_10
              replace hx351_11 := (HB.out.cell (World.block_lt_of_cell? w _ hx351_11)).trans hx351_11
              have HR351_2 := Aside0.mk hi351_2
              have HC351_2 := Aside0.mk hl351_2
              clear hi351_2 hl351_2
              have HR351_3 := Aside0.mk hi351_3
              have HC351_3 := Aside0.mk hl351_3
              clear hi351_3 hl351_3
              have HR351_4 := Aside0.mk hi351_4
              have HC351_4 := Aside0.mk hl351_4
              clear hi351_4 hl351_4
              have HR351_9 := Aside0.mk hi351_9
              have HC351_9 := Aside0.mk hl351_9
              clear hi351_9 hl351_9
              replace p351 := eq_true p351
              replace q351 := eq_true q351
              go_wp2_with (first | ((with_reducible refine gate_callee (f := 59) rfl ?_); refine goesL_ (some 21) rfl rfl Tryz.func59 (by kernel_rfl) rfl #[.agg #[.int .i64 ((rd_T68 l0 x4_1).f0), .int .i64 ((rd_T68 l0 x4_1).f1), .slice A351_2 ((rd_T68 l0 x4_1).f2).length c351_2, .slice A351_3 ((rd_T68 l0 x4_1).f3).length c351_3, .slice A351_4 ((rd_T68 l0 x4_1).f4).length c351_4, .int .i64 ((rd_T68 l0 x4_1).f5), .int .i64 ((rd_T68 l0 x4_1).f6), .int .i64 ((rd_T68 l0 x4_1).f7), .int .i64 ((rd_T68 l0 x4_1).f8), .slice A351_9 ((rd_T68 l0 x4_1).f9).length c351_9, .int .i64 ((rd_T68 l0 x4_1).f10), .bool ((rd_T68 l0 x4_1).f11)]] rfl (by (try simp only [List.map_toArray, List.map_cons, List.map_nil]); first | done | rfl | (simp only [List.length_drop, List.length_take]; rfl)) ?_; (with_reducible refine (dioramaref15_ranges.calls k1 ((rd_T68 l0 x4_1).f0) ((rd_T68 l0 x4_1).f1) _ _ ((rd_T68 l0 x4_1).f2) _ _ ((rd_T68 l0 x4_1).f3) _ _ ((rd_T68 l0 x4_1).f4) ((rd_T68 l0 x4_1).f5) ((rd_T68 l0 x4_1).f6) ((rd_T68 l0 x4_1).f7) ((rd_T68 l0 x4_1).f8) _ _ ((rd_T68 l0 x4_1).f9) ((rd_T68 l0 x4_1).f10) ((rd_T68 l0 x4_1).f11) false _ ?side1 ?side2 ?side3 ?side4 ?side5 ?side6 ?side7 ?side8 A5.out).mono ?_); (case side1 => repeat (first | exact (Kd.C_below HR351_2.out HB.out) | (with_reducible refine Kd.C_alloc ?_ _) | (with_reducible refine Kd.C_drewN ?_ _) | (with_reducible refine Kd.C_drew ?_))); (case side2 => exact HC351_2.out); (case side3 => repeat (first | exact (Kd.C_below HR351_3.out HB.out) | (with_reducible refine Kd.C_alloc ?_ _) | (with_reducible refine Kd.C_drewN ?_ _) | (with_reducible refine Kd.C_drew ?_))); (case side4 => exact HC351_3.out); (case side5 => repeat (first | exact (Kd.C_below HR351_4.out HB.out) | (with_reducible refine Kd.C_alloc ?_ _) | (with_reducible refine Kd.C_drewN ?_ _) | (with_reducible refine Kd.C_drew ?_))); (case side6 => exact HC351_4.out); (case side7 => repeat (first | exact (Kd.C_below HR351_9.out HB.out) | (with_reducible refine Kd.C_alloc ?_ _) | (with_reducible refine Kd.C_drewN ?_ _) | (with_reducible refine Kd.C_drew ?_))); (case side8 => exact HC351_9.out); rintro e w13 ⟨rfl, hb⟩; refine ⟨_, rfl, ?_⟩; have n0_ := Aside0.mk (below_step (by repeat (first | (with_reducible first | exact HB.out | apply below_alloc | apply pw_below_drewN | apply below_drew1) | exact HB.out)) hb); clear HB; have HB := n0_; clear n0_; (try clear hb); (try clear hb2); (try clear hk); (try clear hi)))
              go_ret2
              exact ⟨by first | rfl | (simp [errW_none, errW_some] <;> rfl) | (simp [*, errW_none, errW_some] <;> rfl), by repeat (first | (with_reducible first | exact HB.out | apply below_alloc | apply pw_below_drewN | apply below_drew1) | exact HB.out)⟩
          · rw [if_neg c4] at H
            exact absurd H (by simp)
        · rw [if_neg c3] at H
          have c3b0 : decide (x4_1 < (l0.length : Int)) = false := decide_eq_false c3
          clear c3
          have H' := Aside0.mk H
          clear H
          go_wp2
          go_loopg [5] k1 (fun kq v5 w' => ∃ (x5_2 : Int), v5 = .int .i64 x5_2 ∧ Aside0 (dioramaref15_Check.l1 kq l0 x5_2 = some (r1, r2)) ∧ Aside0 (kq ≤ k1) ∧ Aside0 (Below w.heap.size w w'))
          case atStart => exact ⟨(0), (by first | rfl | (simp; done) | (simp [*]; done)), H', ⟨Nat.le_refl _⟩, ⟨by repeat (first | (with_reducible first | exact HB.out | apply below_alloc | apply pw_below_drewN | apply below_drew1) | exact HB.out)⟩⟩
          case round =>
            clear H'
            try clear c2
            try clear c2b0
            try clear c2b1
            try clear p2
            try clear c3
            try clear c3b0
            try clear p3
            try clear q3
            try clear hx3
            try clear c4
            try clear c4b0
            try clear c5
            try clear c6
            try clear p6
            try clear c8
            try clear hx351_0
            try clear hx351_1
            try clear hx351_10
            try clear hx351_11
            try clear hx351_2
            try clear hx351_3
            try clear hx351_4
            try clear hx351_5
            try clear hx351_6
            try clear hx351_7
            try clear hx351_8
            try clear hx351_9
            try clear hx353_0
            try clear hx353_1
            try clear hx353_10
            try clear hx353_11
            try clear hx353_2
            try clear hx353_3
            try clear hx353_4
            try clear hx353_5
            try clear hx353_6
            try clear hx353_7
            try clear hx353_8
            try clear hx353_9
            try clear p2
            try clear p351
            try clear p353
            try clear q351
            try clear q353
            obtain ⟨x5_2, rfl, HA, HK2, HB⟩ := hrel
            cases gk with
            | zero => exact absurd HA.out (by simp [dioramaref15_Check.l1])
            | succ k2 =>
              have H := HA.out
              clear HA
              simp only [dioramaref15_Check.l1] at H
              by_cases c14 : x5_2 < (l0.length : Int)
              · rw [if_pos c14] at H
                have c14b0 : decide (x5_2 < (l0.length : Int)) = true := decide_eq_true c14
                clear c14
                by_cases c15 : 0 ≤ x5_2
                · rw [if_pos c15] at H
                  have c15b0 : decide (0 ≤ x5_2) = true := decide_eq_true c15
                  clear c15
                  replace H := Option.bind_eq_some_iff.mp H
                  obtain ⟨t356, A160, H⟩ := H
                  replace H : (if t356 = x5_2 then (dioramaref15_Check.l2 k2 l0 x5_2 0) else (some (30, x5_2))) = some (r1, r2) := H
                  have A16 := Aside0.mk A160
                  clear A160
                  by_cases c17 : t356 = x5_2
                  · rw [if_pos c17] at H
                    have c17b0 : (t356 == x5_2) = true := beq_iff_eq.mpr c17
                    have c17b1 : (t356 != x5_2) = false := bne_eq_false_iff_eq.mpr c17
                    clear c17
                    have H' := Aside0.mk H
                    clear H
                    have p355 : 0 ≤ (x5_2 : Int) := of_decide_eq_true (by first | (with_reducible assumption) | assumption)
                    have q355 : x5_2 < (l0.length : Int) := of_decide_eq_true (by first | (with_reducible assumption) | assumption)
                    obtain ⟨ad355, A355_2, c355_2, A355_3, c355_3, A355_4, c355_4, A355_9, c355_9, e355, hx355_0, hx355_1, hx355_2, hx355_3, hx355_4, hx355_5, hx355_6, hx355_7, hx355_8, hx355_9, hx355_10, hx355_11, hl355_2, hi355_2, hl355_3, hi355_3, hl355_4, hi355_4, hl355_9, hi355_9⟩ := at_T68 HR0.out x5_2 p355 q355
                    cases e355
                    replace hx355_0 := (HB.out.cell (World.block_lt_of_cell? w _ hx355_0)).trans hx355_0
                    replace hx355_1 := (HB.out.cell (World.block_lt_of_cell? w _ hx355_1)).trans hx355_1
                    replace hx355_2 := (HB.out.cell (World.block_lt_of_cell? w _ hx355_2)).trans hx355_2
                    replace hx355_3 := (HB.out.cell (World.block_lt_of_cell? w _ hx355_3)).trans hx355_3
                    replace hx355_4 := (HB.out.cell (World.block_lt_of_cell? w _ hx355_4)).trans hx355_4
                    replace hx355_5 := (HB.out.cell (World.block_lt_of_cell? w _ hx355_5)).trans hx355_5
                    replace hx355_6 := (HB.out.cell (World.block_lt_of_cell? w _ hx355_6)).trans hx355_6
                    replace hx355_7 := (HB.out.cell (World.block_lt_of_cell? w _ hx355_7)).trans hx355_7
                    replace hx355_8 := (HB.out.cell (World.block_lt_of_cell? w _ hx355_8)).trans hx355_8
                    replace hx355_9 := (HB.out.cell (World.block_lt_of_cell? w _ hx355_9)).trans hx355_9
                    replace hx355_10 := (HB.out.cell (World.block_lt_of_cell? w _ hx355_10)).trans hx355_10
                    replace hx355_11 := (HB.out.cell (World.block_lt_of_cell? w _ hx355_11)).trans hx355_11
                    have HR355_2 := Aside0.mk hi355_2
                    have HC355_2 := Aside0.mk hl355_2
                    clear hi355_2 hl355_2
                    have HR355_3 := Aside0.mk hi355_3
                    have HC355_3 := Aside0.mk hl355_3
                    clear hi355_3 hl355_3
                    have HR355_4 := Aside0.mk hi355_4
                    have HC355_4 := Aside0.mk hl355_4
                    clear hi355_4 hl355_4
                    have HR355_9 := Aside0.mk hi355_9
                    have HC355_9 := Aside0.mk hl355_9
                    clear hi355_9 hl355_9
                    replace p355 := eq_true p355
                    replace q355 := eq_true q355
                    go_wp2_with (first | ((with_reducible refine gate_callee (f := 61) rfl ?_); refine goesL_ (some 43) rfl rfl Tryz.func61 (by kernel_rfl) rfl #[.slice (some ad355) l0.length c0, .int .i64 ((rd_T68 l0 x5_2).f0)] rfl (by (try simp only [List.map_toArray, List.map_cons, List.map_nil]); first | done | rfl | (simp only [List.length_drop, List.length_take]; rfl)) ?_; (with_reducible refine (dioramaref15_find.calls k2 _ _ l0 ((rd_T68 l0 x5_2).f0) t356 _ ?side1 ?side2 A16.out).mono ?_); (case side1 => repeat (first | exact (Kd.C_below HR0.out HB.out) | (with_reducible refine Kd.C_alloc ?_ _) | (with_reducible refine Kd.C_drewN ?_ _) | (with_reducible refine Kd.C_drew ?_))); (case side2 => exact HC0.out); rintro e w' ⟨rfl, ⟨nd, rfl⟩⟩; refine ⟨_, rfl, ?_⟩))
                    go_loopg [6] k2 (fun kq v6 w' => ∃ (x6_3 : Int), v6 = .int .i64 x6_3 ∧ Aside0 (dioramaref15_Check.l2 kq l0 x5_2 x6_3 = some (r1, r2)) ∧ Aside0 (kq ≤ k2) ∧ Aside0 (Below w.heap.size w w'))
                    case atStart => exact ⟨(0), (by first | rfl | (simp; done) | (simp [*]; done)), H', ⟨Nat.le_refl _⟩, ⟨by repeat (first | (with_reducible first | exact HB.out | apply below_alloc | apply pw_below_drewN | apply below_drew1) | exact HB.out)⟩⟩
                    case round =>
                      clear H'
                      try clear c1
                      try clear c2
                      try clear c2b0
                      try clear c2b1
                      try clear p2
                      try clear c3
                      try clear c3b0
                      try clear p3
                      try clear q3
                      try clear hx3
                      try clear c4
                      try clear c4b0
                      try clear c5
                      try clear c6
                      try clear p6
                      try clear c8
                      try clear c14
                      try clear c14b0
                      try clear c15
                      try clear c15b0
                      try clear c17
                      try clear c17b0
                      try clear c17b1
                      try clear hx351_0
                      try clear hx351_1
                      try clear hx351_10
                      try clear hx351_11
                      try clear hx351_2
                      try clear hx351_3
                      try clear hx351_4
                      try clear hx351_5
                      try clear hx351_6
                      try clear hx351_7
                      try clear hx351_8
                      try clear hx351_9
                      try clear hx353_0
                      try clear hx353_1
                      try clear hx353_10
                      try clear hx353_11
                      try clear hx353_2
                      try clear hx353_3
                      try clear hx353_4
                      try clear hx353_5
                      try clear hx353_6
                      try clear hx353_7
                      try clear hx353_8
                      try clear hx353_9
                      try clear hx355_0
                      try clear hx355_1
                      try clear hx355_10
                      try clear hx355_11
                      try clear hx355_2
                      try clear hx355_3
                      try clear hx355_4
                      try clear hx355_5
                      try clear hx355_6
                      try clear hx355_7
                      try clear hx355_8
                      try clear hx355_9
                      try clear p2
                      try clear p3
                      try clear p351
                      try clear p353
                      try clear p355
                      try clear p6
                      try clear q3
                      try clear q351
                      try clear q353
                      try clear q355
                      obtain ⟨x6_3, rfl, HA, HK3, HB⟩ := hrel
                      cases gk with
                      | zero => exact absurd HA.out (by simp [dioramaref15_Check.l2])
                      | succ k3 =>
                        have H := HA.out
                        clear HA
                        simp only [dioramaref15_Check.l2] at H
                        by_cases c18 : 0 ≤ x5_2
                        · rw [if_pos c18] at H
                          have c18b0 : decide (0 ≤ x5_2) = true := decide_eq_true c18
                          clear c18
                          by_cases c19 : x5_2 < (l0.length : Int)
                          · rw [if_pos c19] at H
                            have c19b0 : decide (x5_2 < (l0.length : Int)) = true := decide_eq_true c19
                            clear c19
                            by_cases c20 : x6_3 < (((rd_T68 l0 x5_2).f3).length : Int)
                            · rw [if_pos c20] at H
                              have c20b0 : decide (x6_3 < (((rd_T68 l0 x5_2).f3).length : Int)) = true := decide_eq_true c20
                              clear c20
                              by_cases c21 : 0 ≤ x6_3
                              · rw [if_pos c21] at H
                                have c21b0 : decide (0 ≤ x6_3) = true := decide_eq_true c21
                                clear c21
                                replace H := Option.bind_eq_some_iff.mp H
                                obtain ⟨t360, A220, H⟩ := H
                                replace H : (if t360 < 0 then (some (5, x5_2)) else (dioramaref15_Check.l2 k3 l0 x5_2 (wrap64 (x6_3 + 1)))) = some (r1, r2) := H
                                have A22 := Aside0.mk A220
                                clear A220
                                by_cases c23 : t360 < 0
                                · rw [if_pos c23] at H
                                  have c23b0 : decide (t360 < 0) = true := decide_eq_true c23
                                  clear c23
                                  simp only [Option.some.injEq, Prod.mk.injEq] at H
                                  obtain ⟨rfl, rfl⟩ := H
                                  have p357 : 0 ≤ (x5_2 : Int) := of_decide_eq_true (by first | (with_reducible assumption) | assumption)
                                  have q357 : x5_2 < (l0.length : Int) := of_decide_eq_true (by first | (with_reducible assumption) | assumption)
                                  obtain ⟨ad357, A357_2, c357_2, A357_3, c357_3, A357_4, c357_4, A357_9, c357_9, e357, hx357_0, hx357_1, hx357_2, hx357_3, hx357_4, hx357_5, hx357_6, hx357_7, hx357_8, hx357_9, hx357_10, hx357_11, hl357_2, hi357_2, hl357_3, hi357_3, hl357_4, hi357_4, hl357_9, hi357_9⟩ := at_T68 HR0.out x5_2 p357 q357
                                  obtain rfl : ad355 = ad357 := (by injection e357)
                                  replace hx357_0 := (HB.out.cell (World.block_lt_of_cell? w _ hx357_0)).trans hx357_0
                                  replace hx357_1 := (HB.out.cell (World.block_lt_of_cell? w _ hx357_1)).trans hx357_1
                                  replace hx357_2 := (HB.out.cell (World.block_lt_of_cell? w _ hx357_2)).trans hx357_2
                                  replace hx357_3 := (HB.out.cell (World.block_lt_of_cell? w _ hx357_3)).trans hx357_3
                                  replace hx357_4 := (HB.out.cell (World.block_lt_of_cell? w _ hx357_4)).trans hx357_4
                                  replace hx357_5 := (HB.out.cell (World.block_lt_of_cell? w _ hx357_5)).trans hx357_5
                                  replace hx357_6 := (HB.out.cell (World.block_lt_of_cell? w _ hx357_6)).trans hx357_6
                                  replace hx357_7 := (HB.out.cell (World.block_lt_of_cell? w _ hx357_7)).trans hx357_7
                                  replace hx357_8 := (HB.out.cell (World.block_lt_of_cell? w _ hx357_8)).trans hx357_8
                                  replace hx357_9 := (HB.out.cell (World.block_lt_of_cell? w _ hx357_9)).trans hx357_9
                                  replace hx357_10 := (HB.out.cell (World.block_lt_of_cell? w _ hx357_10)).trans hx357_10
                                  replace hx357_11 := (HB.out.cell (World.block_lt_of_cell? w _ hx357_11)).trans hx357_11
                                  have HR357_2 := Aside0.mk hi357_2
                                  have HC357_2 := Aside0.mk hl357_2
                                  clear hi357_2 hl357_2
                                  have HR357_3 := Aside0.mk hi357_3
                                  have HC357_3 := Aside0.mk hl357_3
                                  clear hi357_3 hl357_3
                                  have HR357_4 := Aside0.mk hi357_4
                                  have HC357_4 := Aside0.mk hl357_4
                                  clear hi357_4 hl357_4
                                  have HR357_9 := Aside0.mk hi357_9
                                  have HC357_9 := Aside0.mk hl357_9
                                  clear hi357_9 hl357_9
                                  replace p357 := eq_true p357
                                  replace q357 := eq_true q357
                                  have p358 : 0 ≤ (x5_2 : Int) := of_decide_eq_true (by first | (with_reducible assumption) | assumption)
                                  have q358 : x5_2 < (l0.length : Int) := of_decide_eq_true (by first | (with_reducible assumption) | assumption)
                                  obtain ⟨ad358, A358_2, c358_2, A358_3, c358_3, A358_4, c358_4, A358_9, c358_9, e358, hx358_0, hx358_1, hx358_2, hx358_3, hx358_4, hx358_5, hx358_6, hx358_7, hx358_8, hx358_9, hx358_10, hx358_11, hl358_2, hi358_2, hl358_3, hi358_3, hl358_4, hi358_4, hl358_9, hi358_9⟩ := at_T68 HR0.out x5_2 p358 q358
                                  obtain rfl : ad355 = ad358 := (by injection e358)
                                  replace hx358_0 := (HB.out.cell (World.block_lt_of_cell? w _ hx358_0)).trans hx358_0
                                  replace hx358_1 := (HB.out.cell (World.block_lt_of_cell? w _ hx358_1)).trans hx358_1
                                  replace hx358_2 := (HB.out.cell (World.block_lt_of_cell? w _ hx358_2)).trans hx358_2
                                  replace hx358_3 := (HB.out.cell (World.block_lt_of_cell? w _ hx358_3)).trans hx358_3
                                  replace hx358_4 := (HB.out.cell (World.block_lt_of_cell? w _ hx358_4)).trans hx358_4
                                  replace hx358_5 := (HB.out.cell (World.block_lt_of_cell? w _ hx358_5)).trans hx358_5
                                  replace hx358_6 := (HB.out.cell (World.block_lt_of_cell? w _ hx358_6)).trans hx358_6
                                  replace hx358_7 := (HB.out.cell (World.block_lt_of_cell? w _ hx358_7)).trans hx358_7
                                  replace hx358_8 := (HB.out.cell (World.block_lt_of_cell? w _ hx358_8)).trans hx358_8
                                  replace hx358_9 := (HB.out.cell (World.block_lt_of_cell? w _ hx358_9)).trans hx358_9
                                  replace hx358_10 := (HB.out.cell (World.block_lt_of_cell? w _ hx358_10)).trans hx358_10
                                  replace hx358_11 := (HB.out.cell (World.block_lt_of_cell? w _ hx358_11)).trans hx358_11
                                  have HR358_2 := Aside0.mk hi358_2
                                  have HC358_2 := Aside0.mk hl358_2
                                  clear hi358_2 hl358_2
                                  have HR358_3 := Aside0.mk hi358_3
                                  have HC358_3 := Aside0.mk hl358_3
                                  clear hi358_3 hl358_3
                                  have HR358_4 := Aside0.mk hi358_4
                                  have HC358_4 := Aside0.mk hl358_4
                                  clear hi358_4 hl358_4
                                  have HR358_9 := Aside0.mk hi358_9
                                  have HC358_9 := Aside0.mk hl358_9
                                  clear hi358_9 hl358_9
                                  replace p358 := eq_true p358
                                  replace q358 := eq_true q358
                                  have ea_ := Option.some.inj (hx357_2.symm.trans hx358_2)
                                  injection ea_ with ea_ en_ ec_
                                  subst ea_
                                  subst ec_
                                  clear en_
                                  have ea_ := Option.some.inj (hx357_3.symm.trans hx358_3)
                                  injection ea_ with ea_ en_ ec_
                                  subst ea_
                                  subst ec_
                                  clear en_
                                  have ea_ := Option.some.inj (hx357_4.symm.trans hx358_4)
                                  injection ea_ with ea_ en_ ec_
                                  subst ea_
                                  subst ec_
                                  clear en_
                                  have ea_ := Option.some.inj (hx357_9.symm.trans hx358_9)
                                  injection ea_ with ea_ en_ ec_
                                  subst ea_
                                  subst ec_
                                  clear en_
                                  have p359 : 0 ≤ (x6_3 : Int) := of_decide_eq_true (by first | (with_reducible assumption) | assumption)
                                  have q359 : x6_3 < (((rd_T68 l0 x5_2).f3).length : Int) := of_decide_eq_true (by first | (with_reducible assumption) | assumption)
                                  obtain ⟨ad359, e359, hx359_0⟩ := Kd.at_int HR358_3.out x6_3 p359 q359
                                  cases e359
                                  replace hx359_0 := (HB.out.cell (World.block_lt_of_cell? w _ hx359_0)).trans hx359_0
                                  replace p359 := eq_true p359
                                  replace q359 := eq_true q359
                                  go_wp2_with (first | ((with_reducible refine gate_callee (f := 61) rfl ?_); refine goesL_ (some 66) rfl rfl Tryz.func61 (by kernel_rfl) rfl #[.slice (some ad355) l0.length c0, .int .i64 (rd ((rd_T68 l0 x5_2).f3) x6_3)] rfl (by (try simp only [List.map_toArray, List.map_cons, List.map_nil]); first | done | rfl | (simp only [List.length_drop, List.length_take]; rfl)) ?_; (with_reducible refine (dioramaref15_find.calls k3 _ _ l0 (rd ((rd_T68 l0 x5_2).f3) x6_3) t360 _ ?side1 ?side2 A22.out).mono ?_); (case side1 => repeat (first | exact (Kd.C_below HR0.out HB.out) | (with_reducible refine Kd.C_alloc ?_ _) | (with_reducible refine Kd.C_drewN ?_ _) | (with_reducible refine Kd.C_drew ?_))); (case side2 => exact HC0.out); rintro e w' ⟨rfl, ⟨nd, rfl⟩⟩; refine ⟨_, rfl, ?_⟩))
                                  go_ret2
                                  exact ⟨by first | rfl | (simp [errW_none, errW_some] <;> rfl) | (simp [*, errW_none, errW_some] <;> rfl), by repeat (first | (with_reducible first | exact HB.out | apply below_alloc | apply pw_below_drewN | apply below_drew1) | exact HB.out)⟩
                                · rw [if_neg c23] at H
                                  have c23b0 : decide (t360 < 0) = false := decide_eq_false c23
                                  clear c23
                                  have H' := Aside0.mk H
                                  clear H
                                  have p357 : 0 ≤ (x5_2 : Int) := of_decide_eq_true (by first | (with_reducible assumption) | assumption)
                                  have q357 : x5_2 < (l0.length : Int) := of_decide_eq_true (by first | (with_reducible assumption) | assumption)
                                  obtain ⟨ad357, A357_2, c357_2, A357_3, c357_3, A357_4, c357_4, A357_9, c357_9, e357, hx357_0, hx357_1, hx357_2, hx357_3, hx357_4, hx357_5, hx357_6, hx357_7, hx357_8, hx357_9, hx357_10, hx357_11, hl357_2, hi357_2, hl357_3, hi357_3, hl357_4, hi357_4, hl357_9, hi357_9⟩ := at_T68 HR0.out x5_2 p357 q357
                                  obtain rfl : ad355 = ad357 := (by injection e357)
                                  replace hx357_0 := (HB.out.cell (World.block_lt_of_cell? w _ hx357_0)).trans hx357_0
                                  replace hx357_1 := (HB.out.cell (World.block_lt_of_cell? w _ hx357_1)).trans hx357_1
                                  replace hx357_2 := (HB.out.cell (World.block_lt_of_cell? w _ hx357_2)).trans hx357_2
                                  replace hx357_3 := (HB.out.cell (World.block_lt_of_cell? w _ hx357_3)).trans hx357_3
                                  replace hx357_4 := (HB.out.cell (World.block_lt_of_cell? w _ hx357_4)).trans hx357_4
                                  replace hx357_5 := (HB.out.cell (World.block_lt_of_cell? w _ hx357_5)).trans hx357_5
                                  replace hx357_6 := (HB.out.cell (World.block_lt_of_cell? w _ hx357_6)).trans hx357_6
                                  replace hx357_7 := (HB.out.cell (World.block_lt_of_cell? w _ hx357_7)).trans hx357_7
                                  replace hx357_8 := (HB.out.cell (World.block_lt_of_cell? w _ hx357_8)).trans hx357_8
                                  replace hx357_9 := (HB.out.cell (World.block_lt_of_cell? w _ hx357_9)).trans hx357_9
                                  replace hx357_10 := (HB.out.cell (World.block_lt_of_cell? w _ hx357_10)).trans hx357_10
                                  replace hx357_11 := (HB.out.cell (World.block_lt_of_cell? w _ hx357_11)).trans hx357_11
                                  have HR357_2 := Aside0.mk hi357_2
                                  have HC357_2 := Aside0.mk hl357_2
                                  clear hi357_2 hl357_2
                                  have HR357_3 := Aside0.mk hi357_3
                                  have HC357_3 := Aside0.mk hl357_3
                                  clear hi357_3 hl357_3
                                  have HR357_4 := Aside0.mk hi357_4
                                  have HC357_4 := Aside0.mk hl357_4
                                  clear hi357_4 hl357_4
                                  have HR357_9 := Aside0.mk hi357_9
                                  have HC357_9 := Aside0.mk hl357_9
                                  clear hi357_9 hl357_9
                                  replace p357 := eq_true p357
                                  replace q357 := eq_true q357
                                  have p358 : 0 ≤ (x5_2 : Int) := of_decide_eq_true (by first | (with_reducible assumption) | assumption)
                                  have q358 : x5_2 < (l0.length : Int) := of_decide_eq_true (by first | (with_reducible assumption) | assumption)
                                  obtain ⟨ad358, A358_2, c358_2, A358_3, c358_3, A358_4, c358_4, A358_9, c358_9, e358, hx358_0, hx358_1, hx358_2, hx358_3, hx358_4, hx358_5, hx358_6, hx358_7, hx358_8, hx358_9, hx358_10, hx358_11, hl358_2, hi358_2, hl358_3, hi358_3, hl358_4, hi358_4, hl358_9, hi358_9⟩ := at_T68 HR0.out x5_2 p358 q358
                                  obtain rfl : ad355 = ad358 := (by injection e358)
                                  replace hx358_0 := (HB.out.cell (World.block_lt_of_cell? w _ hx358_0)).trans hx358_0
                                  replace hx358_1 := (HB.out.cell (World.block_lt_of_cell? w _ hx358_1)).trans hx358_1
                                  replace hx358_2 := (HB.out.cell (World.block_lt_of_cell? w _ hx358_2)).trans hx358_2
                                  replace hx358_3 := (HB.out.cell (World.block_lt_of_cell? w _ hx358_3)).trans hx358_3
                                  replace hx358_4 := (HB.out.cell (World.block_lt_of_cell? w _ hx358_4)).trans hx358_4
                                  replace hx358_5 := (HB.out.cell (World.block_lt_of_cell? w _ hx358_5)).trans hx358_5
                                  replace hx358_6 := (HB.out.cell (World.block_lt_of_cell? w _ hx358_6)).trans hx358_6
                                  replace hx358_7 := (HB.out.cell (World.block_lt_of_cell? w _ hx358_7)).trans hx358_7
                                  replace hx358_8 := (HB.out.cell (World.block_lt_of_cell? w _ hx358_8)).trans hx358_8
                                  replace hx358_9 := (HB.out.cell (World.block_lt_of_cell? w _ hx358_9)).trans hx358_9
                                  replace hx358_10 := (HB.out.cell (World.block_lt_of_cell? w _ hx358_10)).trans hx358_10
                                  replace hx358_11 := (HB.out.cell (World.block_lt_of_cell? w _ hx358_11)).trans hx358_11
                                  have HR358_2 := Aside0.mk hi358_2
                                  have HC358_2 := Aside0.mk hl358_2
                                  clear hi358_2 hl358_2
                                  have HR358_3 := Aside0.mk hi358_3
                                  have HC358_3 := Aside0.mk hl358_3
                                  clear hi358_3 hl358_3
                                  have HR358_4 := Aside0.mk hi358_4
                                  have HC358_4 := Aside0.mk hl358_4
                                  clear hi358_4 hl358_4
                                  have HR358_9 := Aside0.mk hi358_9
                                  have HC358_9 := Aside0.mk hl358_9
                                  clear hi358_9 hl358_9
                                  replace p358 := eq_true p358
                                  replace q358 := eq_true q358
                                  have ea_ := Option.some.inj (hx357_2.symm.trans hx358_2)
                                  injection ea_ with ea_ en_ ec_
                                  subst ea_
                                  subst ec_
                                  clear en_
                                  have ea_ := Option.some.inj (hx357_3.symm.trans hx358_3)
                                  injection ea_ with ea_ en_ ec_
                                  subst ea_
                                  subst ec_
                                  clear en_
                                  have ea_ := Option.some.inj (hx357_4.symm.trans hx358_4)
                                  injection ea_ with ea_ en_ ec_
                                  subst ea_
                                  subst ec_
                                  clear en_
                                  have ea_ := Option.some.inj (hx357_9.symm.trans hx358_9)
                                  injection ea_ with ea_ en_ ec_
                                  subst ea_
                                  subst ec_
                                  clear en_
                                  have p359 : 0 ≤ (x6_3 : Int) := of_decide_eq_true (by first | (with_reducible assumption) | assumption)
                                  have q359 : x6_3 < (((rd_T68 l0 x5_2).f3).length : Int) := of_decide_eq_true (by first | (with_reducible assumption) | assumption)
                                  obtain ⟨ad359, e359, hx359_0⟩ := Kd.at_int HR358_3.out x6_3 p359 q359
                                  cases e359
                                  replace hx359_0 := (HB.out.cell (World.block_lt_of_cell? w _ hx359_0)).trans hx359_0
                                  replace p359 := eq_true p359
                                  replace q359 := eq_true q359
                                  go_wp2_with (first | ((with_reducible refine gate_callee (f := 61) rfl ?_); refine goesL_ (some 66) rfl rfl Tryz.func61 (by kernel_rfl) rfl #[.slice (some ad355) l0.length c0, .int .i64 (rd ((rd_T68 l0 x5_2).f3) x6_3)] rfl (by (try simp only [List.map_toArray, List.map_cons, List.map_nil]); first | done | rfl | (simp only [List.length_drop, List.length_take]; rfl)) ?_; (with_reducible refine (dioramaref15_find.calls k3 _ _ l0 (rd ((rd_T68 l0 x5_2).f3) x6_3) t360 _ ?side1 ?side2 A22.out).mono ?_); (case side1 => repeat (first | exact (Kd.C_below HR0.out HB.out) | (with_reducible refine Kd.C_alloc ?_ _) | (with_reducible refine Kd.C_drewN ?_ _) | (with_reducible refine Kd.C_drew ?_))); (case side2 => exact HC0.out); rintro e w' ⟨rfl, ⟨nd, rfl⟩⟩; refine ⟨_, rfl, ?_⟩))
                                  go_roundg k3
                                  case measure => have := HK1.out; have := HK2.out; have := HK3.out; omega
                                  case rel => exact ⟨(wrap64 (x6_3 + 1)), (by first | rfl | (simp; done) | (simp [*]; done)), H', ⟨by have := HK1.out; have := HK2.out; have := HK3.out; omega⟩, ⟨by repeat (first | (with_reducible first | exact HB.out | apply below_alloc | apply pw_below_drewN | apply below_drew1) | exact HB.out)⟩⟩
                              · rw [if_neg c21] at H
                                exact absurd H (by simp)
                            · rw [if_neg c20] at H
                              have c20b0 : decide (x6_3 < (((rd_T68 l0 x5_2).f3).length : Int)) = false := decide_eq_false c20
                              clear c20
                              have H' := Aside0.mk H
                              clear H
                              have p357 : 0 ≤ (x5_2 : Int) := of_decide_eq_true (by first | (with_reducible assumption) | assumption)
                              have q357 : x5_2 < (l0.length : Int) := of_decide_eq_true (by first | (with_reducible assumption) | assumption)
                              obtain ⟨ad357, A357_2, c357_2, A357_3, c357_3, A357_4, c357_4, A357_9, c357_9, e357, hx357_0, hx357_1, hx357_2, hx357_3, hx357_4, hx357_5, hx357_6, hx357_7, hx357_8, hx357_9, hx357_10, hx357_11, hl357_2, hi357_2, hl357_3, hi357_3, hl357_4, hi357_4, hl357_9, hi357_9⟩ := at_T68 HR0.out x5_2 p357 q357
                              obtain rfl : ad355 = ad357 := (by injection e357)
                              replace hx357_0 := (HB.out.cell (World.block_lt_of_cell? w _ hx357_0)).trans hx357_0
                              replace hx357_1 := (HB.out.cell (World.block_lt_of_cell? w _ hx357_1)).trans hx357_1
                              replace hx357_2 := (HB.out.cell (World.block_lt_of_cell? w _ hx357_2)).trans hx357_2
                              replace hx357_3 := (HB.out.cell (World.block_lt_of_cell? w _ hx357_3)).trans hx357_3
                              replace hx357_4 := (HB.out.cell (World.block_lt_of_cell? w _ hx357_4)).trans hx357_4
                              replace hx357_5 := (HB.out.cell (World.block_lt_of_cell? w _ hx357_5)).trans hx357_5
                              replace hx357_6 := (HB.out.cell (World.block_lt_of_cell? w _ hx357_6)).trans hx357_6
                              replace hx357_7 := (HB.out.cell (World.block_lt_of_cell? w _ hx357_7)).trans hx357_7
                              replace hx357_8 := (HB.out.cell (World.block_lt_of_cell? w _ hx357_8)).trans hx357_8
                              replace hx357_9 := (HB.out.cell (World.block_lt_of_cell? w _ hx357_9)).trans hx357_9
                              replace hx357_10 := (HB.out.cell (World.block_lt_of_cell? w _ hx357_10)).trans hx357_10
                              replace hx357_11 := (HB.out.cell (World.block_lt_of_cell? w _ hx357_11)).trans hx357_11
                              have HR357_2 := Aside0.mk hi357_2
                              have HC357_2 := Aside0.mk hl357_2
                              clear hi357_2 hl357_2
                              have HR357_3 := Aside0.mk hi357_3
                              have HC357_3 := Aside0.mk hl357_3
                              clear hi357_3 hl357_3
                              have HR357_4 := Aside0.mk hi357_4
                              have HC357_4 := Aside0.mk hl357_4
                              clear hi357_4 hl357_4
                              have HR357_9 := Aside0.mk hi357_9
                              have HC357_9 := Aside0.mk hl357_9
                              clear hi357_9 hl357_9
                              replace p357 := eq_true p357
                              replace q357 := eq_true q357
                              go_wp2
                              go_roundg k3
                              case measure => have := HK1.out; have := HK2.out; have := HK3.out; omega
                              case rel => exact ⟨(wrap64 (x5_2 + 1)), (by first | rfl | (simp; done) | (simp [*]; done)), H', ⟨by have := HK1.out; have := HK2.out; have := HK3.out; omega⟩, ⟨by repeat (first | (with_reducible first | exact HB.out | apply below_alloc | apply pw_below_drewN | apply below_drew1) | exact HB.out)⟩⟩
                          · rw [if_neg c19] at H
                            exact absurd H (by simp)
                        · rw [if_neg c18] at H
                          exact absurd H (by simp)
                  · rw [if_neg c17] at H
                    have c17b0 : (t356 == x5_2) = false := beq_eq_false_iff_ne.mpr c17
                    have c17b1 : (t356 != x5_2) = true := bne_iff_ne.mpr c17
                    simp only [Option.some.injEq, Prod.mk.injEq] at H
                    obtain ⟨rfl, rfl⟩ := H
                    have p355 : 0 ≤ (x5_2 : Int) := of_decide_eq_true (by first | (with_reducible assumption) | assumption)
                    have q355 : x5_2 < (l0.length : Int) := of_decide_eq_true (by first | (with_reducible assumption) | assumption)
                    obtain ⟨ad355, A355_2, c355_2, A355_3, c355_3, A355_4, c355_4, A355_9, c355_9, e355, hx355_0, hx355_1, hx355_2, hx355_3, hx355_4, hx355_5, hx355_6, hx355_7, hx355_8, hx355_9, hx355_10, hx355_11, hl355_2, hi355_2, hl355_3, hi355_3, hl355_4, hi355_4, hl355_9, hi355_9⟩ := at_T68 HR0.out x5_2 p355 q355
                    cases e355
                    replace hx355_0 := (HB.out.cell (World.block_lt_of_cell? w _ hx355_0)).trans hx355_0
                    replace hx355_1 := (HB.out.cell (World.block_lt_of_cell? w _ hx355_1)).trans hx355_1
                    replace hx355_2 := (HB.out.cell (World.block_lt_of_cell? w _ hx355_2)).trans hx355_2
                    replace hx355_3 := (HB.out.cell (World.block_lt_of_cell? w _ hx355_3)).trans hx355_3
                    replace hx355_4 := (HB.out.cell (World.block_lt_of_cell? w _ hx355_4)).trans hx355_4
                    replace hx355_5 := (HB.out.cell (World.block_lt_of_cell? w _ hx355_5)).trans hx355_5
                    replace hx355_6 := (HB.out.cell (World.block_lt_of_cell? w _ hx355_6)).trans hx355_6
                    replace hx355_7 := (HB.out.cell (World.block_lt_of_cell? w _ hx355_7)).trans hx355_7
                    replace hx355_8 := (HB.out.cell (World.block_lt_of_cell? w _ hx355_8)).trans hx355_8
                    replace hx355_9 := (HB.out.cell (World.block_lt_of_cell? w _ hx355_9)).trans hx355_9
                    replace hx355_10 := (HB.out.cell (World.block_lt_of_cell? w _ hx355_10)).trans hx355_10
                    replace hx355_11 := (HB.out.cell (World.block_lt_of_cell? w _ hx355_11)).trans hx355_11
                    have HR355_2 := Aside0.mk hi355_2
                    have HC355_2 := Aside0.mk hl355_2
                    clear hi355_2 hl355_2
                    have HR355_3 := Aside0.mk hi355_3
                    have HC355_3 := Aside0.mk hl355_3
                    clear hi355_3 hl355_3
                    have HR355_4 := Aside0.mk hi355_4
                    have HC355_4 := Aside0.mk hl355_4
                    clear hi355_4 hl355_4
                    have HR355_9 := Aside0.mk hi355_9
                    have HC355_9 := Aside0.mk hl355_9
                    clear hi355_9 hl355_9
                    replace p355 := eq_true p355
                    replace q355 := eq_true q355
                    go_wp2_with (first | ((with_reducible refine gate_callee (f := 61) rfl ?_); refine goesL_ (some 43) rfl rfl Tryz.func61 (by kernel_rfl) rfl #[.slice (some ad355) l0.length c0, .int .i64 ((rd_T68 l0 x5_2).f0)] rfl (by (try simp only [List.map_toArray, List.map_cons, List.map_nil]); first | done | rfl | (simp only [List.length_drop, List.length_take]; rfl)) ?_; (with_reducible refine (dioramaref15_find.calls k2 _ _ l0 ((rd_T68 l0 x5_2).f0) t356 _ ?side1 ?side2 A16.out).mono ?_); (case side1 => repeat (first | exact (Kd.C_below HR0.out HB.out) | (with_reducible refine Kd.C_alloc ?_ _) | (with_reducible refine Kd.C_drewN ?_ _) | (with_reducible refine Kd.C_drew ?_))); (case side2 => exact HC0.out); rintro e w' ⟨rfl, ⟨nd, rfl⟩⟩; refine ⟨_, rfl, ?_⟩))
                    go_ret2
                    exact ⟨by first | rfl | (simp [errW_none, errW_some] <;> rfl) | (simp [*, errW_none, errW_some] <;> rfl), by repeat (first | (with_reducible first | exact HB.out | apply below_alloc | apply pw_below_drewN | apply below_drew1) | exact HB.out)⟩
                · rw [if_neg c15] at H
                  exact absurd H (by simp)
              · rw [if_neg c14] at H
                have c14b0 : decide (x5_2 < (l0.length : Int)) = false := decide_eq_false c14
                clear c14
                have H' := Aside0.mk H
                clear H
                go_wp2
                go_loopg [7] k2 (fun kq v7 w' => ∃ (x7_3 : Int), v7 = .int .i64 x7_3 ∧ Aside0 (dioramaref15_Check.l3 kq l0 x7_3 = some (r1, r2)) ∧ Aside0 (kq ≤ k2) ∧ Aside0 (Below w.heap.size w w'))
                case atStart => exact ⟨(0), (by first | rfl | (simp; done) | (simp [*]; done)), H', ⟨Nat.le_refl _⟩, ⟨by repeat (first | (with_reducible first | exact HB.out | apply below_alloc | apply pw_below_drewN | apply below_drew1) | exact HB.out)⟩⟩
                case round =>
                  clear H'
                  try clear c1
                  try clear c2
                  try clear c2b0
                  try clear c2b1
                  try clear p2
                  try clear c3
                  try clear c3b0
                  try clear p3
                  try clear q3
                  try clear hx3
                  try clear c4
                  try clear c4b0
                  try clear c5
                  try clear c6
                  try clear p6
                  try clear c8
                  try clear c14
                  try clear c14b0
                  try clear c15
                  try clear c15b0
                  try clear c17
                  try clear c17b0
                  try clear c17b1
                  try clear c18
                  try clear c18b0
                  try clear c19
                  try clear c19b0
                  try clear c20
                  try clear c20b0
                  try clear c21
                  try clear c21b0
                  try clear c23
                  try clear c23b0
                  try clear hx351_0
                  try clear hx351_1
                  try clear hx351_10
                  try clear hx351_11
                  try clear hx351_2
                  try clear hx351_3
                  try clear hx351_4
                  try clear hx351_5
                  try clear hx351_6
                  try clear hx351_7
                  try clear hx351_8
                  try clear hx351_9
                  try clear hx353_0
                  try clear hx353_1
                  try clear hx353_10
                  try clear hx353_11
                  try clear hx353_2
                  try clear hx353_3
                  try clear hx353_4
                  try clear hx353_5
                  try clear hx353_6
                  try clear hx353_7
                  try clear hx353_8
                  try clear hx353_9
                  try clear hx355_0
                  try clear hx355_1
                  try clear hx355_10
                  try clear hx355_11
                  try clear hx355_2
                  try clear hx355_3
                  try clear hx355_4
                  try clear hx355_5
                  try clear hx355_6
                  try clear hx355_7
                  try clear hx355_8
                  try clear hx355_9
                  try clear hx357_0
                  try clear hx357_1
                  try clear hx357_10
                  try clear hx357_11
                  try clear hx357_2
                  try clear hx357_3
                  try clear hx357_4
                  try clear hx357_5
                  try clear hx357_6
                  try clear hx357_7
                  try clear hx357_8
                  try clear hx357_9
                  try clear hx358_0
                  try clear hx358_1
                  try clear hx358_10
                  try clear hx358_11
                  try clear hx358_2
                  try clear hx358_3
                  try clear hx358_4
                  try clear hx358_5
                  try clear hx358_6
                  try clear hx358_7
                  try clear hx358_8
                  try clear hx358_9
                  try clear hx359_0
                  try clear p2
                  try clear p3
                  try clear p351
                  try clear p353
                  try clear p355
                  try clear p357
                  try clear p358
                  try clear p359
                  try clear p6
                  try clear q3
                  try clear q351
                  try clear q353
                  try clear q355
                  try clear q357
                  try clear q358
                  try clear q359
                  obtain ⟨x7_3, rfl, HA, HK3, HB⟩ := hrel
                  cases gk with
                  | zero => exact absurd HA.out (by simp [dioramaref15_Check.l3])
                  | succ k3 =>
                    have H := HA.out
                    clear HA
                    simp only [dioramaref15_Check.l3] at H
                    by_cases c24 : x7_3 < (l0.length : Int)
                    · rw [if_pos c24] at H
                      have c24b0 : decide (x7_3 < (l0.length : Int)) = true := decide_eq_true c24
                      clear c24
                      replace H := Option.bind_eq_some_iff.mp H
                      obtain ⟨t361, A250, H⟩ := H
                      replace H : (if 0 ≤ x7_3 then (if x7_3 < (t361.length : Int) then (if rdOf false t361 x7_3 = true then (some (150, x7_3)) else (dioramaref15_Check.l3 k3 l0 (wrap64 (x7_3 + 1)))) else (none)) else (none)) = some (r1, r2) := H
                      have A25 := Aside0.mk A250
                      clear A250
                      by_cases c26 : 0 ≤ x7_3
                      · rw [if_pos c26] at H
                        have c26b0 : decide (0 ≤ x7_3) = true := decide_eq_true c26
                        clear c26
                        by_cases c27 : x7_3 < (t361.length : Int)
                        · rw [if_pos c27] at H
                          have c27b0 : decide (x7_3 < (t361.length : Int)) = true := decide_eq_true c27
                          clear c27
                          obtain ⟨bq28, hbq28⟩ : ∃ b_ : Bool, b_ = (rdOf false t361 x7_3) := ⟨_, rfl⟩
                          replace H : (if bq28 = true then (some (150, x7_3)) else (dioramaref15_Check.l3 k3 l0 (wrap64 (x7_3 + 1)))) = some (r1, r2) := by rw [← hbq28] at H; exact H
                          have Nbq28 := Aside0.mk hbq28
                          clear hbq28
                          by_cases c29 : bq28 = true
                          · subst c29
                            have H1 : (some (150, x7_3)) = some (r1, r2) := by rw [if_pos rfl] at H; exact H
                            clear H
                            have H := H1
                            clear H1
                            simp only [Option.some.injEq, Prod.mk.injEq] at H
                            obtain ⟨rfl, rfl⟩ := H
                            go_wp2_with (first | ((with_reducible refine gate_callee (f := 62) rfl ?_); refine goesL_ (some 77) rfl rfl Tryz.func62 (by kernel_rfl) rfl #[.slice A0 l0.length c0, .int .i64 x7_3] rfl (by (try simp only [List.map_toArray, List.map_cons, List.map_nil]); first | done | rfl | (simp only [List.length_drop, List.length_take]; rfl)) ?_; (with_reducible refine (dioramaref15_reached.calls k3 _ _ l0 x7_3 t361 _ ?side1 ?side2 A25.out).mono ?_); (case side1 => repeat (first | exact (Kd.C_below HR0.out HB.out) | (with_reducible refine Kd.C_alloc ?_ _) | (with_reducible refine Kd.C_drewN ?_ _) | (with_reducible refine Kd.C_drew ?_))); (case side2 => exact HC0.out); rintro e w30 ⟨v362, rfl, ho0, hb⟩; refine ⟨_, rfl, ?_⟩; have n0_ := Aside0.mk (Kd.R_lower ho0 (below_size (by repeat (first | (with_reducible first | exact HB.out | apply below_alloc | apply pw_below_drewN | apply below_drew1) | exact HB.out)))); have n1_ := Aside0.mk (below_step (by repeat (first | (with_reducible first | exact HB.out | apply below_alloc | apply pw_below_drewN | apply below_drew1) | exact HB.out)) hb); clear HB; have HO363 := n0_; have HB := n1_; clear n0_ n1_; (try clear hb); (try clear hb2); (try clear hk); (try clear hi); (try clear ho0); obtain ⟨Ao31, co31, eo31⟩ := Kd.R_slice HO363.out; subst eo31; have p364 : 0 ≤ (x7_3 : Int) := of_decide_eq_true (by first | (with_reducible assumption) | assumption); have q364 : x7_3 < (t361.length : Int) := of_decide_eq_true (by first | (with_reducible assumption) | assumption); obtain ⟨ad364, e364, hx364_0⟩ := Kd.at_bool (Kd.R_reads' HO363.out).2.2 x7_3 p364 q364; (try rw [← Nbq28.out] at hx364_0); cases e364; replace p364 := eq_true p364; replace q364 := eq_true q364))
                            go_ret2
                            exact ⟨by first | rfl | (simp [errW_none, errW_some] <;> rfl) | (simp [*, errW_none, errW_some] <;> rfl), by repeat (first | (with_reducible first | exact HB.out | apply below_alloc | apply pw_below_drewN | apply below_drew1) | exact HB.out)⟩
                          · replace c29 := Bool.eq_false_iff.mpr c29
                            subst c29
                            have H1 : (dioramaref15_Check.l3 k3 l0 (wrap64 (x7_3 + 1))) = some (r1, r2) := by rw [if_neg (show ¬ (false = true) by decide)] at H; exact H
                            clear H
                            have H := H1
                            clear H1
                            have H' := Aside0.mk H
                            clear H
                            go_wp2_with (first | ((with_reducible refine gate_callee (f := 62) rfl ?_); refine goesL_ (some 77) rfl rfl Tryz.func62 (by kernel_rfl) rfl #[.slice A0 l0.length c0, .int .i64 x7_3] rfl (by (try simp only [List.map_toArray, List.map_cons, List.map_nil]); first | done | rfl | (simp only [List.length_drop, List.length_take]; rfl)) ?_; (with_reducible refine (dioramaref15_reached.calls k3 _ _ l0 x7_3 t361 _ ?side1 ?side2 A25.out).mono ?_); (case side1 => repeat (first | exact (Kd.C_below HR0.out HB.out) | (with_reducible refine Kd.C_alloc ?_ _) | (with_reducible refine Kd.C_drewN ?_ _) | (with_reducible refine Kd.C_drew ?_))); (case side2 => exact HC0.out); rintro e w32 ⟨v362, rfl, ho0, hb⟩; refine ⟨_, rfl, ?_⟩; have n0_ := Aside0.mk (Kd.R_lower ho0 (below_size (by repeat (first | (with_reducible first | exact HB.out | apply below_alloc | apply pw_below_drewN | apply below_drew1) | exact HB.out)))); have n1_ := Aside0.mk (below_step (by repeat (first | (with_reducible first | exact HB.out | apply below_alloc | apply pw_below_drewN | apply below_drew1) | exact HB.out)) hb); clear HB; have HO363 := n0_; have HB := n1_; clear n0_ n1_; (try clear hb); (try clear hb2); (try clear hk); (try clear hi); (try clear ho0); obtain ⟨Ao33, co33, eo33⟩ := Kd.R_slice HO363.out; subst eo33; have p364 : 0 ≤ (x7_3 : Int) := of_decide_eq_true (by first | (with_reducible assumption) | assumption); have q364 : x7_3 < (t361.length : Int) := of_decide_eq_true (by first | (with_reducible assumption) | assumption); obtain ⟨ad364, e364, hx364_0⟩ := Kd.at_bool (Kd.R_reads' HO363.out).2.2 x7_3 p364 q364; (try rw [← Nbq28.out] at hx364_0); cases e364; replace p364 := eq_true p364; replace q364 := eq_true q364))
                            go_roundg k3
                            case measure => have := HK1.out; have := HK2.out; have := HK3.out; omega
                            case rel => exact ⟨(wrap64 (x7_3 + 1)), (by first | rfl | (simp; done) | (simp [*]; done)), H', ⟨by have := HK1.out; have := HK2.out; have := HK3.out; omega⟩, ⟨by repeat (first | (with_reducible first | exact HB.out | apply below_alloc | apply pw_below_drewN | apply below_drew1) | exact HB.out)⟩⟩
                        · rw [if_neg c27] at H
                          exact absurd H (by simp)
                      · rw [if_neg c26] at H
                        exact absurd H (by simp)
                    · rw [if_neg c24] at H
                      have c24b0 : decide (x7_3 < (l0.length : Int)) = false := decide_eq_false c24
                      clear c24
                      simp only [Option.some.injEq, Prod.mk.injEq] at H
                      obtain ⟨rfl, rfl⟩ := H
                      go_wp2
                      go_ret2
                      exact ⟨by first | rfl | (simp [errW_none, errW_some] <;> rfl) | (simp [*, errW_none, errW_some] <;> rfl), by repeat (first | (with_reducible first | exact HB.out | apply below_alloc | apply pw_below_drewN | apply below_drew1) | exact HB.out)⟩
end Go.Proofs.YtphkionjjhhhlaaGreat.Q
end
section
namespace Go.Proofs.YtphkionjjhhhlaaGreat.Q
open Go.RowKit Go.Proofs.YtphkionjjhhhlaaGreatW.PrintWords Go.Proofs.YtphkionjjhhhlaaGreatW.PrintLast Go.Proofs.YtphkionjjhhhlaaGreatW.PrintMore
structure Fair (l : List S68) : Prop where
  len : l.length ≤ 16
  each : ∀ x ∈ l, x.f3.length ≤ 100 ∧ x.f4.length ≤ 100 ∧ x.f9.length ≤ 100
theorem check_l0 (l : List S68) (hl : Fair l) : ∀ (n j : Nat), j + n = l.length →
    (∃ e, chkA j (l.drop j) = some (some e) ∧ Ev fun k => dioramaref15_Check.l0 k l j = some e) ∨ (chkA j (l.drop j) = some none ∧ ∀ R, (Ev fun k => dioramaref15_Check.l1 k l 0 = R) → Ev fun k => dioramaref15_Check.l0 k l j = R) := by
  intro n
  have hlen := hl.len
  induction n with
  | zero =>
    intro j hj
    right
    rw [List.drop_eq_nil_of_le (by omega)]
    exact ⟨rfl, fun R hR => Ev.step (fun k => by rw [dioramaref15_Check.l0, if_neg (by omega)]) hR⟩
  | succ n ih =>
    intro j hj
    have hjl : j < l.length := by omega
    have hx : l[j]? = some l[j] := List.getElem?_eq_getElem hjl
    have hm := hl.each _ (List.getElem_mem hjl)
    have hrd := rdT68_at l j _ hx
    rw [drop_at l j _ hx]
    generalize l[j] = x at hx hm hrd
    obtain ⟨b, h1, h2, h3⟩ := ranges_is x (by omega) (by omega)
    have hstep : ∀ k, dioramaref15_Check.l0 (k + 1) l j = ((dioramaref15_ranges.f k x.f0 x.f1 x.f2 x.f3 x.f4 x.f5 x.f6 x.f7 x.f8 x.f9 x.f10 x.f11).bind fun t352 => (if t352 = true then ((dioramaref15_clean.f k x.f0 x.f1 x.f2 x.f3 x.f4 x.f5 x.f6 x.f7 x.f8 x.f9 x.f10 x.f11).bind fun t354 => (if t354 = true then (dioramaref15_Check.l0 k l ((j + 1 : Nat) : Int)) else (some (4, (j : Int))))) else (some (1, (j : Int))))) := by
      intro k
      rw [dioramaref15_Check.l0, if_pos (by omega), if_pos (by omega), hrd, w64_succ j (by omega)]
    unfold chkA
    rw [h1, Option.bind_some]
    cases b with
    | false =>
      left
      refine ⟨_, if_pos rfl, Ev.step hstep (Ev.bind h3 ⟨0, fun k _ => rfl⟩)⟩
    | true =>
      rw [if_neg (by decide)]
      obtain ⟨u, h4, h5⟩ := clean_is x (h2 rfl)
      rw [h4, Option.bind_some]
      by_cases hc : u = true ∧ x.f2.length ≤ 65536
      · obtain ⟨rfl, hc⟩ := hc
        rw [if_neg (by decide), if_neg (by omega)]
        rw [decide_eq_true hc, Bool.and_true] at h5
        rw [show (j : Int) + 1 = ((j + 1 : Nat) : Int) by omega]
        rcases ih (j + 1) (by omega) with ⟨e, h6, h7⟩ | ⟨h6, h7⟩
        · exact .inl ⟨e, h6, Ev.step hstep (Ev.bind h3 (by simp only [if_true]; exact Ev.bind h5 (by simp only [if_true]; exact h7)))⟩
        · exact .inr ⟨h6, fun R hR => Ev.step hstep (Ev.bind h3 (by simp only [if_true]; exact Ev.bind h5 (by simp only [if_true]; exact h7 R hR)))⟩
      · left
        have hf : (u && decide (x.f2.length ≤ 65536)) = false := by
          cases u with
          | false => rfl
          | true => exact decide_eq_false fun h => hc ⟨rfl, h⟩
        rw [hf] at h5
        refine ⟨(4, (j : Int)), ?_, Ev.step hstep (Ev.bind h3 (by simp only [if_true]; exact Ev.bind h5 ⟨0, fun k _ => rfl⟩))⟩
        cases u with
        | false => rfl
        | true =>
          have hc2 : ¬ x.f2.length ≤ 65536 := fun h => hc ⟨rfl, h⟩
          rw [if_neg (by decide), if_pos (by omega)]
theorem find_self (l : List S68) (j : Nat) (x : S68) (h : l[j]? = some x) : 0 ≤ findI l x.f0 ∧ findI l x.f0 ≤ (j : Int) := by
  have key : ∀ (l : List S68) (a j : Nat), l[j]? = some x → (a : Int) ≤ idxAux (fun y : S68 => y.f0 == x.f0) l a ∧ idxAux (fun y : S68 => y.f0 == x.f0) l a ≤ (a + j : Nat) := by
    intro l
    induction l with
    | nil => intro a j h; cases h
    | cons y l ih =>
      intro a j h
      unfold idxAux
      by_cases he : (y.f0 == x.f0) = true
      · rw [if_pos he]; omega
      · rw [if_neg he]
        cases j with
        | zero =>
          exfalso
          have : y = x := by simpa using h
          subst this
          simp at he
        | succ j =>
          have := ih (a + 1) j (by simpa using h)
          omega
  have := key l 0 j h
  unfold findI idxOf
  omega
theorem check_l2 (l : List S68) (hl : l.length < 1000000) (x5 : Nat) (x : S68) (hx : l[x5]? = some x) (hf : x.f3.length < 1000000) (R : Option (Int × Int)) (hR : Ev fun k => dioramaref15_Check.l1 k l ((x5 + 1 : Nat) : Int) = R) : ∀ (n j : Nat), j + n = x.f3.length →
    Ev fun k => dioramaref15_Check.l2 k l x5 j = if ((x.f3.drop j).any fun id => decide (findI l id < 0)) = true then some (5, (x5 : Int)) else R := by
  have hx5 := (List.getElem?_eq_some_iff.1 hx).1
  have hrd := rdT68_at l x5 x hx
  intro n
  induction n with
  | zero =>
    intro j hj
    rw [List.drop_eq_nil_of_le (by omega), if_neg (by simp)]
    refine Ev.step (fun k => ?_) hR
    rw [dioramaref15_Check.l2, if_pos (by omega), if_pos (by omega), hrd, if_neg (by omega), w64_succ x5 (by omega)]
  | succ n ih =>
    intro j hj
    have hjl : j < x.f3.length := by omega
    have hy : x.f3[j]? = some x.f3[j] := List.getElem?_eq_getElem hjl
    rw [drop_at _ _ _ hy, List.any_cons]
    have hstep : ∀ k, dioramaref15_Check.l2 (k + 1) l x5 j = ((dioramaref15_find.f k l x.f3[j]).bind fun t360 => (if t360 < 0 then (some (5, (x5 : Int))) else (dioramaref15_Check.l2 k l x5 ((j + 1 : Nat) : Int)))) := by
      intro k
      rw [dioramaref15_Check.l2, if_pos (by omega), if_pos (by omega), hrd, if_pos (by omega), if_pos (by omega), rd_at _ j _ hy, w64_succ j (by omega)]
    by_cases hn : findI l x.f3[j] < 0
    · rw [decide_eq_true hn, Bool.true_or, if_pos rfl]
      exact Ev.step hstep (Ev.bind (find_is l hl _) ⟨0, fun k _ => if_pos hn⟩)
    · rw [decide_eq_false hn, Bool.false_or]
      refine Ev.step hstep (Ev.bind (find_is l hl _) ?_)
      exact Ev.mono (ih (j + 1) (by omega)) fun k hk => by rw [if_neg hn]; exact hk
theorem check_l1 (l : List S68) (hl : Fair l) : ∀ (n j : Nat), j + n = l.length →
    (∃ e, chkB l j (l.drop j) = some e ∧ Ev fun k => dioramaref15_Check.l1 k l j = some e) ∨
      (chkB l j (l.drop j) = none ∧ (∀ x ∈ l.drop j, ∀ id ∈ x.f3, 0 ≤ findI l id) ∧ ∀ R, (Ev fun k => dioramaref15_Check.l3 k l 0 = R) → Ev fun k => dioramaref15_Check.l1 k l j = R) := by
  intro n
  have hlen := hl.len
  induction n with
  | zero =>
    intro j hj
    right
    rw [List.drop_eq_nil_of_le (by omega)]
    exact ⟨rfl, fun x hx => (by cases hx), fun R hR => Ev.step (fun k => by rw [dioramaref15_Check.l1, if_neg (by omega)]) hR⟩
  | succ n ih =>
    intro j hj
    have hjl : j < l.length := by omega
    have hx : l[j]? = some l[j] := List.getElem?_eq_getElem hjl
    have hm := hl.each _ (List.getElem_mem hjl)
    have hrd := rdT68_at l j _ hx
    rw [drop_at l j _ hx]
    generalize l[j] = x at hx hm hrd
    have hself := find_self l j x hx
    have hstep : ∀ k, dioramaref15_Check.l1 (k + 1) l j = ((dioramaref15_find.f k l x.f0).bind fun t356 => (if t356 = (j : Int) then (dioramaref15_Check.l2 k l j 0) else (some (30, (j : Int))))) := by
      intro k
      rw [dioramaref15_Check.l1, if_pos (by omega), if_pos (by omega), hrd]
    unfold chkB
    by_cases hd : findI l x.f0 < (j : Int)
    · left
      rw [if_pos hd]
      exact ⟨_, rfl, Ev.step hstep (Ev.bind (find_is l (by omega) _) ⟨0, fun k _ => if_neg (by omega)⟩)⟩
    · rw [if_neg hd]
      have he : findI l x.f0 = (j : Int) := by omega
      have hl2 := fun R hR => check_l2 l (by omega) j x hx (by omega) R hR x.f3.length 0 (by omega)
      simp only [List.drop_zero] at hl2
      by_cases ha : (x.f3.any fun id => decide (findI l id < 0)) = true
      · left
        rw [if_pos ha]
        have h1 : ∃ R, Ev fun k => dioramaref15_Check.l1 k l ((j + 1 : Nat) : Int) = R ∨ True := ⟨none, 0, fun k _ => .inr trivial⟩
        refine ⟨_, rfl, Ev.step hstep (Ev.bind (find_is l (by omega) _) ?_)⟩
        have key : ∀ (n j' : Nat), j' + n = x.f3.length → ((x.f3.drop j').any fun id => decide (findI l id < 0)) = true → Ev fun k => dioramaref15_Check.l2 k l j j' = some (5, (j : Int)) := by
          intro n
          induction n with
          | zero =>
            intro j' hj' h
            rw [List.drop_eq_nil_of_le (by omega)] at h
            simp at h
          | succ n ih2 =>
            intro j' hj' h
            have hjl' : j' < x.f3.length := by omega
            have hy : x.f3[j']? = some x.f3[j'] := List.getElem?_eq_getElem hjl'
            rw [drop_at _ _ _ hy, List.any_cons] at h
            have hst : ∀ k, dioramaref15_Check.l2 (k + 1) l j j' = ((dioramaref15_find.f k l x.f3[j']).bind fun t360 => (if t360 < 0 then (some (5, (j : Int))) else (dioramaref15_Check.l2 k l j ((j' + 1 : Nat) : Int)))) := by
              intro k
              rw [dioramaref15_Check.l2, if_pos (by omega), if_pos (by omega), hrd, if_pos (by omega), if_pos (by omega), rd_at _ j' _ hy, w64_succ j' (by omega)]
            by_cases hn : findI l x.f3[j'] < 0
            · exact Ev.step hst (Ev.bind (find_is l (by omega) _) ⟨0, fun k _ => if_pos hn⟩)
            · rw [decide_eq_false hn, Bool.false_or] at h
              exact Ev.step hst (Ev.bind (find_is l (by omega) _) (Ev.mono (ih2 (j' + 1) (by omega) h) fun k hk => by rw [if_neg hn]; exact hk))
        exact Ev.mono (key x.f3.length 0 (by omega) (by rw [List.drop_zero]; exact ha)) fun k hk => by rw [if_pos he]; exact hk
      · rw [if_neg ha]
        rw [show (j : Int) + 1 = ((j + 1 : Nat) : Int) by omega]
        have hstep2 : ∀ R, (Ev fun k => dioramaref15_Check.l1 k l ((j + 1 : Nat) : Int) = R) → Ev fun k => dioramaref15_Check.l1 k l j = R := fun R hR => by
          refine Ev.step hstep (Ev.bind (find_is l (by omega) _) ?_)
          refine Ev.mono (hl2 R hR) fun k hk => ?_
          rw [if_neg ha] at hk
          rw [if_pos he]
          exact hk
        rcases ih (j + 1) (by omega) with ⟨e, h6, h7⟩ | ⟨h6, h7, h8⟩
        · exact .inl ⟨e, h6, hstep2 _ h7⟩
        · refine .inr ⟨h6, fun y hy id hid => ?_, fun R hR => hstep2 R (h8 R hR)⟩
          rcases List.mem_cons.1 hy with rfl | hy
          · have : ¬ findI l id < 0 := fun hh => ha (List.any_eq_true.2 ⟨id, hid, decide_eq_true hh⟩)
            omega
          · exact h7 y hy id hid
theorem chI_ok (l : List S68) (h : ∀ x ∈ l, ∀ id ∈ x.f3, 0 ≤ findI l id) : ∀ k, 0 ≤ k → k < (l.length : Int) → ∀ c ∈ chI l k, 0 ≤ c ∧ c < (l.length : Int) := by
  intro k h0 h1 c hc
  obtain ⟨id, hid, rfl⟩ := List.mem_map.1 hc
  have hkl : k.toNat < l.length := by omega
  have h2 := rdT68_at l k.toNat _ (List.getElem?_eq_getElem hkl)
  rw [Int.toNat_of_nonneg h0] at h2
  rw [h2] at hid
  have := h _ (List.getElem_mem hkl) id hid
  rcases findI_range l id with h3 | h3
  · omega
  · exact h3
theorem check_l3 (l : List S68) (hl : Fair l) (hch : ∀ k, 0 ≤ k → k < (l.length : Int) → ∀ c ∈ chI l k, 0 ≤ c ∧ c < (l.length : Int)) : ∀ (n j : Nat), j + n = l.length →
    (∃ e, chkC l j (l.drop j) = some (some e) ∧ e.1 = 150 ∧ Ev fun k => dioramaref15_Check.l3 k l j = some e) ∨
      (chkC l j (l.drop j) = some none ∧ (∀ k : Int, (j : Int) ≤ k → k < (l.length : Int) → ¬ Rch (chI l) k k) ∧ Ev fun k => dioramaref15_Check.l3 k l j = some (0, -1)) := by
  intro n
  have hlen := hl.len
  induction n with
  | zero =>
    intro j hj
    right
    rw [List.drop_eq_nil_of_le (by omega)]
    exact ⟨rfl, fun k h1 h2 => by omega, Ev.const fun k => by rw [dioramaref15_Check.l3, if_neg (by omega)]⟩
  | succ n ih =>
    intro j hj
    have hjl : j < l.length := by omega
    have hx : l[j]? = some l[j] := List.getElem?_eq_getElem hjl
    rw [drop_at l j _ hx]
    obtain ⟨b, h1, h2⟩ := loops_is l (by omega) hch j (by omega) (by omega)
    obtain ⟨s', h3, h4, h5⟩ := reached_is l (by omega) (fun x hx => by have := hl.each x hx; omega) hch j (by omega) (by omega)
    have hstep : ∀ k, dioramaref15_Check.l3 (k + 1) l j = ((dioramaref15_reached.f k l (j : Int)).bind fun t361 => (if 0 ≤ (j : Int) then (if (j : Int) < (t361.length : Int) then (if rdOf false t361 (j : Int) = true then (some (150, (j : Int))) else (dioramaref15_Check.l3 k l ((j + 1 : Nat) : Int))) else (none)) else (none))) := by
      intro k
      rw [dioramaref15_Check.l3, if_pos (by omega), w64_succ j (by omega)]
    unfold chkC
    rw [h1, Option.bind_some]
    cases b with
    | true =>
      left
      rw [if_pos rfl]
      refine ⟨_, rfl, rfl, Ev.step hstep (Ev.bind h3 ⟨0, fun k _ => ?_⟩)⟩
      show (if 0 ≤ (j : Int) then (if (j : Int) < (s'.length : Int) then (if rdOf false s' (j : Int) = true then (some (150, (j : Int))) else (dioramaref15_Check.l3 k l ((j + 1 : Nat) : Int))) else (none)) else (none)) = some (150, (j : Int))
      rw [if_pos (by omega), if_pos (by omega), if_pos ((h5 j (by omega)).2 (h2.1 rfl))]
    | false =>
      rw [if_neg (by decide), show (j : Int) + 1 = ((j + 1 : Nat) : Int) by omega]
      have hno : ¬ Rch (chI l) j j := fun h => by have := h2.2 h; cases this
      have hf : ¬ rdOf false s' (j : Int) = true := fun h => hno ((h5 j (by omega)).1 h)
      have hstep2 : ∀ R, (Ev fun k => dioramaref15_Check.l3 k l ((j + 1 : Nat) : Int) = R) → Ev fun k => dioramaref15_Check.l3 k l j = R := fun R hR => by
        refine Ev.step hstep (Ev.bind h3 (Ev.mono hR fun k hk => ?_))
        rw [if_pos (by omega), if_pos (by omega), if_neg hf]
        exact hk
      rcases ih (j + 1) (by omega) with ⟨e, h6, h6', h7⟩ | ⟨h6, h7, h8⟩
      · exact .inl ⟨e, h6, h6', hstep2 _ h7⟩
      · refine .inr ⟨h6, fun k hk1 hk2 => ?_, hstep2 _ h8⟩
        by_cases he : k = (j : Int)
        · rw [he]; exact hno
        · exact h7 k (by omega) hk2
theorem checks_is (l : List S68) (hl : Fair l) : ∃ e : Int × Int, item_Check.f l = some e ∧ (Ev fun k => dioramaref15_Check.f k l = some e) ∧
    (e.1 = 0 → (∀ k, 0 ≤ k → k < (l.length : Int) → ∀ c ∈ chI l k, 0 ≤ c ∧ c < (l.length : Int)) ∧ ∀ k, 0 ≤ k → k < (l.length : Int) → ¬ Rch (chI l) k k) := by
  unfold item_Check.f
  by_cases h12 : 12 < l.length
  · rw [if_pos h12]
    refine ⟨_, rfl, ⟨0, fun k _ => ?_⟩, fun h => by cases h⟩
    unfold dioramaref15_Check.f
    exact if_pos (by omega)
  · rw [if_neg h12]
    have hf : ∀ R, (Ev fun k => dioramaref15_Check.l0 k l 0 = R) → Ev fun k => dioramaref15_Check.f k l = R := fun R hR => Ev.mono hR fun k hk => by
      unfold dioramaref15_Check.f
      rw [if_neg (by omega)]
      exact hk
    have hA := check_l0 l hl l.length 0 (by omega)
    rw [List.drop_zero] at hA
    rcases hA with ⟨e, h1, h2⟩ | ⟨h1, h2⟩
    · refine ⟨e, ?_, hf _ h2, fun h => ?_⟩
      · show (chkA ((0 : Nat) : Int) l).bind _ = _
        rw [h1]; rfl
      · exfalso
        have key : ∀ (t : List S68) (i : Int), chkA i t = some (some e) → e.1 = 0 → False := by
          intro t
          induction t with
          | nil => intro i h; simp [chkA] at h
          | cons x t ih =>
            intro i h h0
            unfold chkA at h
            obtain ⟨a, _, h⟩ := Option.bind_eq_some_iff.1 h
            split at h
            · have := Option.some.inj (Option.some.inj h); rw [← this] at h0; cases h0
            · obtain ⟨b, _, h⟩ := Option.bind_eq_some_iff.1 h
              split at h
              · have := Option.some.inj (Option.some.inj h); rw [← this] at h0; cases h0
              · split at h
                · have := Option.some.inj (Option.some.inj h); rw [← this] at h0; cases h0
                · exact ih _ h h0
        exact key _ _ h1 h
    · have hB := check_l1 l hl l.length 0 (by omega)
      rw [List.drop_zero] at hB
      rcases hB with ⟨e, h3, h4⟩ | ⟨h3, h4, h5⟩
      · refine ⟨e, ?_, hf _ (h2 _ h4), fun h => ?_⟩
        · show (chkA ((0 : Nat) : Int) l).bind _ = _
          rw [h1]
          show (match chkB l ((0 : Nat) : Int) l with | some r => some r | none => _) = _
          rw [h3]
        · exfalso
          have key : ∀ (t : List S68) (i : Int), chkB l i t = some e → e.1 = 0 → False := by
            intro t
            induction t with
            | nil => intro i h; simp [chkB] at h
            | cons x t ih =>
              intro i h h0
              unfold chkB at h
              split at h
              · have := Option.some.inj h; rw [← this] at h0; cases h0
              · split at h
                · have := Option.some.inj h; rw [← this] at h0; cases h0
                · exact ih _ h h0
          exact key _ _ h3 h
      · have hch := chI_ok l h4
        have hC := check_l3 l hl hch l.length 0 (by omega)
        rw [List.drop_zero] at hC
        rcases hC with ⟨e, h6, h6', h7⟩ | ⟨h6, h7, h8⟩
        · refine ⟨e, ?_, hf _ (h2 _ (h5 _ h7)), fun h => by omega⟩
          show (chkA ((0 : Nat) : Int) l).bind _ = _
          rw [h1]
          show (match chkB l ((0 : Nat) : Int) l with | some r => some r | none => (chkC l ((0 : Nat) : Int) l).bind _) = _
          rw [h3, h6]; rfl
        · refine ⟨(0, -1), ?_, hf _ (h2 _ (h5 _ h8)), fun _ => ⟨hch, fun k h0 h1 => h7 k (by omega) h1⟩⟩
          show (chkA ((0 : Nat) : Int) l).bind _ = _
          rw [h1]
          show (match chkB l ((0 : Nat) : Int) l with | some r => some r | none => (chkC l ((0 : Nat) : Int) l).bind _) = _
          rw [h3, h6]; rfl
end Go.Proofs.YtphkionjjhhhlaaGreat.Q
end
