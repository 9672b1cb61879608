/- Lemmas and walks of this proof (part 5). -/
import Derived.Test.YtphkionjjhhhlaaGreatCChecks4
set_option linter.unusedVariables false
set_option linter.unusedSimpArgs false
section
namespace Go.Proofs.YtphkionjjhhhlaaGreat.Q
open Go.RowKit Go.Proofs.YtphkionjjhhhlaaGreatW.PrintWords Go.Proofs.YtphkionjjhhhlaaGreatW.PrintLast Go.Proofs.YtphkionjjhhhlaaGreatW.PrintMore
def dioramalaw15_ItemChecks.j0 : Nat → List (S68) → Int → Bool → Option (Bool)
  | 0, _, _, _ => none
  | k + 1, x0, x1, x33 => if x33 = true then (some false) else ((item_Needs.f k x0 x1).bind fun bt411 => ((dioramaref15_Needs.f k x0 x1).bind fun bt415 => (if bt411.2 = bt415.2 then ((dioramaref00_EqInts.f k bt411.1 bt415.1).bind fun t419 => (if t419 = true then ((dioramalaw15_awake.f k).bind fun t420 => (some t420)) else (some false))) else (some false))))
def dioramalaw15_ItemChecks.f (k : Nat) (l0 : List (S68)) (a1 : Int) : Option (Bool) := (dioramalaw15_small.f k l0).bind fun t406 => (if t406 = true then ((item_Check.f l0).bind fun bt407 => ((dioramaref15_Check.f k l0).bind fun bt409 => (if bt407.1 = bt409.1 then (dioramalaw15_ItemChecks.j0 k l0 a1 (bt407.2 != bt409.2)) else (dioramalaw15_ItemChecks.j0 k l0 a1 true)))) else (some true))
set_option maxHeartbeats 8000000 in
set_option maxRecDepth 100000 in
theorem dioramalaw15_ItemChecks.calls (k : Nat) (A0 : Option Addr) (c0 : Nat) (l0 : List (S68)) (a1 : Int) (r : Bool) (w : World) (hr0 : Kd.C k68 w A0 l0.length l0) (hc0 : l0.length ≤ c0) (h : dioramalaw15_ItemChecks.f k l0 a1 = some r) :
    Calls Tryz.prog 4 #[.slice A0 l0.length c0, .int .i64 a1] w fun e w' => e = .returned (.bool r) ∧ Below w.heap.size w w' := by
  have HR0 := Aside0.mk hr0
  have HC0 := Aside0.mk hc0
  clear hr0 hc0
  have HB := Aside0.mk (Below.refl w.heap.size w)
  have H : ((dioramalaw15_small.f k l0).bind fun t406 => (if t406 = true then ((item_Check.f l0).bind fun bt407 => ((dioramaref15_Check.f k l0).bind fun bt409 => (if bt407.1 = bt409.1 then (dioramalaw15_ItemChecks.j0 k l0 a1 (bt407.2 != bt409.2)) else (dioramalaw15_ItemChecks.j0 k l0 a1 true)))) else (some true))) = some r := h
  clear h
  replace H := Option.bind_eq_some_iff.mp H
  obtain ⟨t406, A30, H⟩ := H
  replace H : (if t406 = true then ((item_Check.f l0).bind fun bt407 => ((dioramaref15_Check.f k l0).bind fun bt409 => (if bt407.1 = bt409.1 then (dioramalaw15_ItemChecks.j0 k l0 a1 (bt407.2 != bt409.2)) else (dioramalaw15_ItemChecks.j0 k l0 a1 true)))) else (some true)) = some r := H
  have A3 := Aside0.mk A30
  clear A30
  by_cases c4 : t406 = true
  · subst c4
    have H1 : ((item_Check.f l0).bind fun bt407 => ((dioramaref15_Check.f k l0).bind fun bt409 => (if bt407.1 = bt409.1 then (dioramalaw15_ItemChecks.j0 k l0 a1 (bt407.2 != bt409.2)) else (dioramalaw15_ItemChecks.j0 k l0 a1 true)))) = some r := by rw [if_pos rfl] at H; exact H
    clear H
    have H := H1
    clear H1
    replace H := Option.bind_eq_some_iff.mp H
    obtain ⟨⟨t407, t408⟩, A50, H⟩ := H
    replace H : ((dioramaref15_Check.f k l0).bind fun bt409 => (if t407 = bt409.1 then (dioramalaw15_ItemChecks.j0 k l0 a1 (t408 != bt409.2)) else (dioramalaw15_ItemChecks.j0 k l0 a1 true))) = some r := H
    have A5 := Aside0.mk A50
    clear A50
    replace H := Option.bind_eq_some_iff.mp H
    obtain ⟨⟨t409, t410⟩, A60, H⟩ := H
    replace H : (if t407 = t409 then (dioramalaw15_ItemChecks.j0 k l0 a1 (t408 != t410)) else (dioramalaw15_ItemChecks.j0 k l0 a1 true)) = some r := H
    have A6 := Aside0.mk A60
    clear A60
    have HC7 := Aside0.mk H
    clear H
    go_enter Tryz.func4, Tryz.ntmps4
    go_upto_region 5 with (first | ((with_reducible refine gate_callee (f := 18) rfl ?_); refine goesL_ (some 14) rfl rfl Tryz.func18 (by kernel_rfl) rfl #[.slice A0 l0.length c0] rfl (by (try simp only [List.map_toArray, List.map_cons, List.map_nil]); first | done | rfl | (simp only [List.length_drop, List.length_take]; rfl)) ?_; (with_reducible refine (dioramalaw15_small.calls k _ _ l0 true _ ?side1 ?side2 A3.out).mono ?_); (case side1 => repeat (first | exact HR0.out | (with_reducible refine Kd.C_alloc ?_ _) | (with_reducible refine Kd.C_drewN ?_ _) | (with_reducible refine Kd.C_drew ?_))); (case side2 => exact HC0.out); rintro e w8 ⟨rfl, hb⟩; refine ⟨_, rfl, ?_⟩; have n0_ := Aside0.mk (below_step (by repeat (first | (with_reducible first | exact HB.out | apply below_alloc | apply pw_below_drewN | apply below_drew1) | exact HB.out)) hb); clear HB; have HB := n0_; clear n0_; (try clear hb); (try clear hb2); (try clear hk); (try clear hi)) | ((with_reducible refine gate_callee (f := 19) rfl ?_); refine goesL_ (some 18) rfl rfl Tryz.func19 (by kernel_rfl) rfl #[.slice A0 l0.length c0] rfl (by (try simp only [List.map_toArray, List.map_cons, List.map_nil]); first | done | rfl | (simp only [List.length_drop, List.length_take]; rfl)) ?_; (with_reducible refine (item_Check.calls _ _ l0 t407 t408 _ ?side1 ?side2 A5.out).mono ?_); (case side1 => repeat (first | exact (Kd.C_below HR0.out HB.out) | (with_reducible refine Kd.C_alloc ?_ _) | (with_reducible refine Kd.C_drewN ?_ _) | (with_reducible refine Kd.C_drew ?_))); (case side2 => exact HC0.out); rintro e w9 ⟨rfl, hb⟩; refine ⟨_, rfl, ?_⟩; have n0_ := Aside0.mk (below_step (by repeat (first | (with_reducible first | exact HB.out | apply below_alloc | apply pw_below_drewN | apply below_drew1) | exact HB.out)) hb); clear HB; have HB := n0_; clear n0_; (try clear hb); (try clear hb2); (try clear hk); (try clear hi)) | ((with_reducible refine gate_callee (f := 20) rfl ?_); refine goesL_ (some 23) rfl rfl Tryz.func20 (by kernel_rfl) rfl #[.slice A0 l0.length c0] rfl (by (try simp only [List.map_toArray, List.map_cons, List.map_nil]); first | done | rfl | (simp only [List.length_drop, List.length_take]; rfl)) ?_; (with_reducible refine (dioramaref15_Check.calls k _ _ l0 t409 t410 _ ?side1 ?side2 A6.out).mono ?_); (case side1 => repeat (first | exact (Kd.C_below HR0.out HB.out) | (with_reducible refine Kd.C_alloc ?_ _) | (with_reducible refine Kd.C_drewN ?_ _) | (with_reducible refine Kd.C_drew ?_))); (case side2 => exact HC0.out); rintro e w10 ⟨rfl, hb⟩; refine ⟨_, rfl, ?_⟩; have n0_ := Aside0.mk (below_step (by repeat (first | (with_reducible first | exact HB.out | apply below_alloc | apply pw_below_drewN | apply below_drew1) | exact HB.out)) hb); clear HB; have HB := n0_; clear n0_; (try clear hb); (try clear hb2); (try clear hk); (try clear hi)))
    (try simp only [Act.put, List.setIfInBounds_toArray, List.set_cons_zero, List.set_cons_succ])
    go_cut [33] (fun v33 wc => ∃ (kq : Nat) (x33_6 : Bool), v33 = .bool x33_6 ∧ Aside0 (dioramalaw15_ItemChecks.j0 kq l0 a1 x33_6 = some r) ∧ Aside0 (kq ≤ k) ∧ Aside0 (Below w.heap.size w wc))
    case first =>
      have H := HC7.out
      clear HC7
      by_cases c11 : t407 = t409
      · rw [if_pos c11] at H
        have c11b0 : (t407 == t409) = true := beq_iff_eq.mpr c11
        have c11b1 : (t407 != t409) = false := bne_eq_false_iff_eq.mpr c11
        clear c11
        (first | rw [c11b0] | (simp only [i64_w, i32_w]; rw [c11b0]) | skip)
        have H' := Aside0.mk H
        clear H
        go_wp2
        go_meet
        case rel => exact ⟨_, ((t408 != t410)), (by first | rfl | (simp; done) | (simp [*]; done)), H', ⟨by first | omega | exact Nat.le_refl _⟩, ⟨by repeat (first | (with_reducible first | exact HB.out | apply below_alloc | apply pw_below_drewN | apply below_drew1) | exact HB.out)⟩⟩
      · rw [if_neg c11] at H
        have c11b0 : (t407 == t409) = false := beq_eq_false_iff_ne.mpr c11
        have c11b1 : (t407 != t409) = true := bne_iff_ne.mpr c11
        (first | rw [c11b0] | (simp only [i64_w, i32_w]; rw [c11b0]) | skip)
        have H' := Aside0.mk H
        clear H
        go_wp2
        go_meet
        case rel => exact ⟨_, (true), (by first | rfl | (simp; done) | (simp [*]; done)), H', ⟨by first | omega | exact Nat.le_refl _⟩, ⟨by repeat (first | (with_reducible first | exact HB.out | apply below_alloc | apply pw_below_drewN | apply below_drew1) | exact HB.out)⟩⟩
    case rest =>
      clear HC7
      try clear c1
      try clear c2
      try clear p2
      try clear c4
      try clear c11
      try clear c11b0
      try clear c11b1
      obtain ⟨kq, x33_6, rfl, HA, HJ6, HB⟩ := hcut
      cases kq with
      | zero => exact absurd HA.out (by simp [dioramalaw15_ItemChecks.j0])
      | succ kj6 =>
        have H := HA.out
        clear HA
        simp only [dioramalaw15_ItemChecks.j0] at H
        by_cases c12 : x33_6 = true
        · subst c12
          have H1 : (some false) = some r := by rw [if_pos rfl] at H; exact H
          clear H
          have H := H1
          clear H1
          obtain rfl := Option.some.inj H
          go_wp2
          go_ret
          exact ⟨by first | rfl | (simp [errW_none, errW_some] <;> rfl) | (simp [*, errW_none, errW_some] <;> rfl), by repeat (first | (with_reducible first | exact HB.out | apply below_alloc | apply pw_below_drewN | apply below_drew1) | exact HB.out)⟩
        · replace c12 := Bool.eq_false_iff.mpr c12
          subst c12
          have H1 : ((item_Needs.f kj6 l0 a1).bind fun bt411 => ((dioramaref15_Needs.f kj6 l0 a1).bind fun bt415 => (if bt411.2 = bt415.2 then ((dioramaref00_EqInts.f kj6 bt411.1 bt415.1).bind fun t419 => (if t419 = true then ((dioramalaw15_awake.f kj6).bind fun t420 => (some t420)) else (some false))) else (some false)))) = some r := by rw [if_neg (show ¬ (false = true) by decide)] at H; exact H
          clear H
          have H := H1
          clear H1
          replace H := Option.bind_eq_some_iff.mp H
          obtain ⟨⟨t411, t412⟩, A130, H⟩ := H
          replace H : ((dioramaref15_Needs.f kj6 l0 a1).bind fun bt415 => (if t412 = bt415.2 then ((dioramaref00_EqInts.f kj6 t411 bt415.1).bind fun t419 => (if t419 = true then ((dioramalaw15_awake.f kj6).bind fun t420 => (some t420)) else (some false))) else (some false))) = some r := H
          have A13 := Aside0.mk A130
          clear A130
          replace H := Option.bind_eq_some_iff.mp H
          obtain ⟨⟨t415, t416⟩, A140, H⟩ := H
          replace H : (if t412 = t416 then ((dioramaref00_EqInts.f kj6 t411 t415).bind fun t419 => (if t419 = true then ((dioramalaw15_awake.f kj6).bind fun t420 => (some t420)) else (some false))) else (some false)) = some r := H
          have A14 := Aside0.mk A140
          clear A140
          by_cases c15 : t412 = t416
          · rw [if_pos c15] at H
            have c15b0 : (t412 == t416) = true := beq_iff_eq.mpr c15
            have c15b1 : (t412 != t416) = false := bne_eq_false_iff_eq.mpr c15
            clear c15
            replace H := Option.bind_eq_some_iff.mp H
            obtain ⟨t419, A160, H⟩ := H
            replace H : (if t419 = true then ((dioramalaw15_awake.f kj6).bind fun t420 => (some t420)) else (some false)) = some r := H
            have A16 := Aside0.mk A160
            clear A160
            by_cases c17 : t419 = true
            · subst c17
              have H1 : ((dioramalaw15_awake.f kj6).bind fun t420 => (some t420)) = some r := by rw [if_pos rfl] at H; exact H
              clear H
              have H := H1
              clear H1
              replace H := Option.bind_eq_some_iff.mp H
              obtain ⟨t420, A180, H⟩ := H
              replace H : (some t420) = some r := H
              have A18 := Aside0.mk A180
              clear A180
              obtain rfl := Option.some.inj H
              go_wp2_with (first | ((with_reducible refine gate_callee (f := 21) rfl ?_); refine goesL_ (some 37) rfl rfl Tryz.func21 (by kernel_rfl) rfl #[.slice A0 l0.length c0, .int .i64 a1] rfl (by (try simp only [List.map_toArray, List.map_cons, List.map_nil]); first | done | rfl | (simp only [List.length_drop, List.length_take]; rfl)) ?_; (with_reducible refine (item_Needs.calls kj6 _ _ l0 a1 t411 t412 _ ?side1 ?side2 A13.out).mono ?_); (case side1 => repeat (first | exact (Kd.C_below HR0.out HB.out) | (with_reducible refine Kd.C_alloc ?_ _) | (with_reducible refine Kd.C_drewN ?_ _) | (with_reducible refine Kd.C_drew ?_))); (case side2 => exact HC0.out); rintro e w19 ⟨v413, rfl, ho0, hb⟩; refine ⟨_, rfl, ?_⟩; have n0_ := Aside0.mk (Kd.R_lower ho0 (below_size (by repeat (first | (with_reducible first | exact HB.out | apply below_alloc | apply pw_below_drewN | apply below_drew1) | exact HB.out)))); have n1_ := Aside0.mk (below_step (by repeat (first | (with_reducible first | exact HB.out | apply below_alloc | apply pw_below_drewN | apply below_drew1) | exact HB.out)) hb); clear HB; have HO414 := n0_; have HB := n1_; clear n0_ n1_; (try clear hb); (try clear hb2); (try clear hk); (try clear hi); (try clear ho0)) | ((with_reducible refine gate_callee (f := 22) rfl ?_); refine goesL_ (some 43) rfl rfl Tryz.func22 (by kernel_rfl) rfl #[.slice A0 l0.length c0, .int .i64 a1] rfl (by (try simp only [List.map_toArray, List.map_cons, List.map_nil]); first | done | rfl | (simp only [List.length_drop, List.length_take]; rfl)) ?_; (with_reducible refine (dioramaref15_Needs.calls kj6 _ _ l0 a1 t415 t416 _ ?side1 ?side2 A14.out).mono ?_); (case side1 => repeat (first | exact (Kd.C_below HR0.out HB.out) | (with_reducible refine Kd.C_alloc ?_ _) | (with_reducible refine Kd.C_drewN ?_ _) | (with_reducible refine Kd.C_drew ?_))); (case side2 => exact HC0.out); rintro e w20 ⟨v417, rfl, ho0, hb⟩; refine ⟨_, rfl, ?_⟩; have n0_ := Aside0.mk (Kd.R_elder' (by (with_reducible repeat (first | apply Kd.R_alloc | apply Kd.R_drewN | apply Kd.R_drew)); exact HO414.out) (Kd.R_base ho0) hb); have n1_ := Aside0.mk (Kd.R_lower (Kd.R_new' ho0 (Kd.R_lt (by (with_reducible repeat (first | apply Kd.R_alloc | apply Kd.R_drewN | apply Kd.R_drew)); exact HO414.out))) (below_size (by repeat (first | (with_reducible first | exact HB.out | apply below_alloc | apply pw_below_drewN | apply below_drew1) | exact HB.out)))); have n2_ := Aside0.mk (below_step (by repeat (first | (with_reducible first | exact HB.out | apply below_alloc | apply pw_below_drewN | apply below_drew1) | exact HB.out)) hb); clear HO414; clear HB; have HO414 := n0_; have HO418 := n1_; have HB := n2_; clear n0_ n1_ n2_; (try clear hb); (try clear hb2); (try clear hk); (try clear hi); (try clear ho0); obtain ⟨Ao21, co21, eo21⟩ := Kd.R_slice HO414.out; subst eo21; obtain ⟨Ao22, co22, eo22⟩ := Kd.R_slice HO418.out; subst eo22) | (go_at_call 23; (with_reducible refine (dioramaref00_EqInts.calls kj6 _ _ t411 _ _ t415 true _ ?side1 ?side2 ?side3 ?side4 A16.out).mono ?_); (case side1 => repeat (first | exact (Kd.R_reads' HO414.out).2.2 | (with_reducible refine Kd.C_alloc ?_ _) | (with_reducible refine Kd.C_drewN ?_ _) | (with_reducible refine Kd.C_drew ?_))); (case side2 => exact (Kd.R_reads' HO414.out).2.1); (case side3 => repeat (first | exact (Kd.R_reads' HO418.out).2.2 | (with_reducible refine Kd.C_alloc ?_ _) | (with_reducible refine Kd.C_drewN ?_ _) | (with_reducible refine Kd.C_drew ?_))); (case side4 => exact (Kd.R_reads' HO418.out).2.1); rintro e w' ⟨rfl, ⟨nd, rfl⟩⟩) | (go_at_call 16; (with_reducible refine (dioramalaw15_awake.calls kj6  t420 _ A18.out).mono ?_); rintro e w23 ⟨rfl, hb⟩; have n0_ := Aside0.mk (Kd.R_below (by (with_reducible repeat (first | apply Kd.R_alloc | apply Kd.R_drewN | apply Kd.R_drew)); exact HO414.out) hb); have n1_ := Aside0.mk (Kd.R_below (by (with_reducible repeat (first | apply Kd.R_alloc | apply Kd.R_drewN | apply Kd.R_drew)); exact HO418.out) hb); have n2_ := Aside0.mk (below_step (by repeat (first | (with_reducible first | exact HB.out | apply below_alloc | apply pw_below_drewN | apply below_drew1) | exact HB.out)) hb); clear HO414; clear HO418; clear HB; have HO414 := n0_; have HO418 := n1_; have HB := n2_; clear n0_ n1_ n2_; (try clear hb); (try clear hb2); (try clear hk); (try clear hi)))
              go_ret
              exact ⟨by first | rfl | (simp [errW_none, errW_some] <;> rfl) | (simp [*, errW_none, errW_some] <;> rfl), by repeat (first | (with_reducible first | exact HB.out | apply below_alloc | apply pw_below_drewN | apply below_drew1) | exact HB.out)⟩
            · replace c17 := Bool.eq_false_iff.mpr c17
              subst c17
              have H1 : (some false) = some r := by rw [if_neg (show ¬ (false = true) by decide)] at H; exact H
              clear H
              have H := H1
              clear H1
              obtain rfl := Option.some.inj H
              go_wp2_with (first | ((with_reducible refine gate_callee (f := 21) rfl ?_); refine goesL_ (some 37) rfl rfl Tryz.func21 (by kernel_rfl) rfl #[.slice A0 l0.length c0, .int .i64 a1] rfl (by (try simp only [List.map_toArray, List.map_cons, List.map_nil]); first | done | rfl | (simp only [List.length_drop, List.length_take]; rfl)) ?_; (with_reducible refine (item_Needs.calls kj6 _ _ l0 a1 t411 t412 _ ?side1 ?side2 A13.out).mono ?_); (case side1 => repeat (first | exact (Kd.C_below HR0.out HB.out) | (with_reducible refine Kd.C_alloc ?_ _) | (with_reducible refine Kd.C_drewN ?_ _) | (with_reducible refine Kd.C_drew ?_))); (case side2 => exact HC0.out); rintro e w24 ⟨v413, rfl, ho0, hb⟩; refine ⟨_, rfl, ?_⟩; have n0_ := Aside0.mk (Kd.R_lower ho0 (below_size (by repeat (first | (with_reducible first | exact HB.out | apply below_alloc | apply pw_below_drewN | apply below_drew1) | exact HB.out)))); have n1_ := Aside0.mk (below_step (by repeat (first | (with_reducible first | exact HB.out | apply below_alloc | apply pw_below_drewN | apply below_drew1) | exact HB.out)) hb); clear HB; have HO414 := n0_; have HB := n1_; clear n0_ n1_; (try clear hb); (try clear hb2); (try clear hk); (try clear hi); (try clear ho0)) | ((with_reducible refine gate_callee (f := 22) rfl ?_); refine goesL_ (some 43) rfl rfl Tryz.func22 (by kernel_rfl) rfl #[.slice A0 l0.length c0, .int .i64 a1] rfl (by (try simp only [List.map_toArray, List.map_cons, List.map_nil]); first | done | rfl | (simp only [List.length_drop, List.length_take]; rfl)) ?_; (with_reducible refine (dioramaref15_Needs.calls kj6 _ _ l0 a1 t415 t416 _ ?side1 ?side2 A14.out).mono ?_); (case side1 => repeat (first | exact (Kd.C_below HR0.out HB.out) | (with_reducible refine Kd.C_alloc ?_ _) | (with_reducible refine Kd.C_drewN ?_ _) | (with_reducible refine Kd.C_drew ?_))); (case side2 => exact HC0.out); rintro e w25 ⟨v417, rfl, ho0, hb⟩; refine ⟨_, rfl, ?_⟩; have n0_ := Aside0.mk (Kd.R_elder' (by (with_reducible repeat (first | apply Kd.R_alloc | apply Kd.R_drewN | apply Kd.R_drew)); exact HO414.out) (Kd.R_base ho0) hb); have n1_ := Aside0.mk (Kd.R_lower (Kd.R_new' ho0 (Kd.R_lt (by (with_reducible repeat (first | apply Kd.R_alloc | apply Kd.R_drewN | apply Kd.R_drew)); exact HO414.out))) (below_size (by repeat (first | (with_reducible first | exact HB.out | apply below_alloc | apply pw_below_drewN | apply below_drew1) | exact HB.out)))); have n2_ := Aside0.mk (below_step (by repeat (first | (with_reducible first | exact HB.out | apply below_alloc | apply pw_below_drewN | apply below_drew1) | exact HB.out)) hb); clear HO414; clear HB; have HO414 := n0_; have HO418 := n1_; have HB := n2_; clear n0_ n1_ n2_; (try clear hb); (try clear hb2); (try clear hk); (try clear hi); (try clear ho0); obtain ⟨Ao26, co26, eo26⟩ := Kd.R_slice HO414.out; subst eo26; obtain ⟨Ao27, co27, eo27⟩ := Kd.R_slice HO418.out; subst eo27) | (go_at_call 23; (with_reducible refine (dioramaref00_EqInts.calls kj6 _ _ t411 _ _ t415 false _ ?side1 ?side2 ?side3 ?side4 A16.out).mono ?_); (case side1 => repeat (first | exact (Kd.R_reads' HO414.out).2.2 | (with_reducible refine Kd.C_alloc ?_ _) | (with_reducible refine Kd.C_drewN ?_ _) | (with_reducible refine Kd.C_drew ?_))); (case side2 => exact (Kd.R_reads' HO414.out).2.1); (case side3 => repeat (first | exact (Kd.R_reads' HO418.out).2.2 | (with_reducible refine Kd.C_alloc ?_ _) | (with_reducible refine Kd.C_drewN ?_ _) | (with_reducible refine Kd.C_drew ?_))); (case side4 => exact (Kd.R_reads' HO418.out).2.1); rintro e w' ⟨rfl, ⟨nd, rfl⟩⟩))
              go_ret
              exact ⟨by first | rfl | (simp [errW_none, errW_some] <;> rfl) | (simp [*, errW_none, errW_some] <;> rfl), by repeat (first | (with_reducible first | exact HB.out | apply below_alloc | apply pw_below_drewN | apply below_drew1) | exact HB.out)⟩
          · rw [if_neg c15] at H
            have c15b0 : (t412 == t416) = false := beq_eq_false_iff_ne.mpr c15
            have c15b1 : (t412 != t416) = true := bne_iff_ne.mpr c15
            obtain rfl := Option.some.inj H
            go_wp2_with (first | ((with_reducible refine gate_callee (f := 21) rfl ?_); refine goesL_ (some 37) rfl rfl Tryz.func21 (by kernel_rfl) rfl #[.slice A0 l0.length c0, .int .i64 a1] rfl (by (try simp only [List.map_toArray, List.map_cons, List.map_nil]); first | done | rfl | (simp only [List.length_drop, List.length_take]; rfl)) ?_; (with_reducible refine (item_Needs.calls kj6 _ _ l0 a1 t411 t412 _ ?side1 ?side2 A13.out).mono ?_); (case side1 => repeat (first | exact (Kd.C_below HR0.out HB.out) | (with_reducible refine Kd.C_alloc ?_ _) | (with_reducible refine Kd.C_drewN ?_ _) | (with_reducible refine Kd.C_drew ?_))); (case side2 => exact HC0.out); rintro e w28 ⟨v413, rfl, ho0, hb⟩; refine ⟨_, rfl, ?_⟩; have n0_ := Aside0.mk (Kd.R_lower ho0 (below_size (by repeat (first | (with_reducible first | exact HB.out | apply below_alloc | apply pw_below_drewN | apply below_drew1) | exact HB.out)))); have n1_ := Aside0.mk (below_step (by repeat (first | (with_reducible first | exact HB.out | apply below_alloc | apply pw_below_drewN | apply below_drew1) | exact HB.out)) hb); clear HB; have HO414 := n0_; have HB := n1_; clear n0_ n1_; (try clear hb); (try clear hb2); (try clear hk); (try clear hi); (try clear ho0)) | ((with_reducible refine gate_callee (f := 22) rfl ?_); refine goesL_ (some 43) rfl rfl Tryz.func22 (by kernel_rfl) rfl #[.slice A0 l0.length c0, .int .i64 a1] rfl (by (try simp only [List.map_toArray, List.map_cons, List.map_nil]); first | done | rfl | (simp only [List.length_drop, List.length_take]; rfl)) ?_; (with_reducible refine (dioramaref15_Needs.calls kj6 _ _ l0 a1 t415 t416 _ ?side1 ?side2 A14.out).mono ?_); (case side1 => repeat (first | exact (Kd.C_below HR0.out HB.out) | (with_reducible refine Kd.C_alloc ?_ _) | (with_reducible refine Kd.C_drewN ?_ _) | (with_reducible refine Kd.C_drew ?_))); (case side2 => exact HC0.out); rintro e w29 ⟨v417, rfl, ho0, hb⟩; refine ⟨_, rfl, ?_⟩; have n0_ := Aside0.mk (Kd.R_elder' (by (with_reducible repeat (first | apply Kd.R_alloc | apply Kd.R_drewN | apply Kd.R_drew)); exact HO414.out) (Kd.R_base ho0) hb); have n1_ := Aside0.mk (Kd.R_lower (Kd.R_new' ho0 (Kd.R_lt (by (with_reducible repeat (first | apply Kd.R_alloc | apply Kd.R_drewN | apply Kd.R_drew)); exact HO414.out))) (below_size (by repeat (first | (with_reducible first | exact HB.out | apply below_alloc | apply pw_below_drewN | apply below_drew1) | exact HB.out)))); have n2_ := Aside0.mk (below_step (by repeat (first | (with_reducible first | exact HB.out | apply below_alloc | apply pw_below_drewN | apply below_drew1) | exact HB.out)) hb); clear HO414; clear HB; have HO414 := n0_; have HO418 := n1_; have HB := n2_; clear n0_ n1_ n2_; (try clear hb); (try clear hb2); (try clear hk); (try clear hi); (try clear ho0)))
            go_ret
            exact ⟨by first | rfl | (simp [errW_none, errW_some] <;> rfl) | (simp [*, errW_none, errW_some] <;> rfl), by repeat (first | (with_reducible first | exact HB.out | apply below_alloc | apply pw_below_drewN | apply below_drew1) | exact HB.out)⟩
  · replace c4 := Bool.eq_false_iff.mpr c4
    subst c4
    have H1 : (some true) = some r := by rw [if_neg (show ¬ (false = true) by decide)] at H; exact H
    clear H
    have H := H1
    clear H1
    obtain rfl := Option.some.inj H
    go_enter Tryz.func4, Tryz.ntmps4
    go_wp2_with (first | ((with_reducible refine gate_callee (f := 18) rfl ?_); refine goesL_ (some 14) rfl rfl Tryz.func18 (by kernel_rfl) rfl #[.slice A0 l0.length c0] rfl (by (try simp only [List.map_toArray, List.map_cons, List.map_nil]); first | done | rfl | (simp only [List.length_drop, List.length_take]; rfl)) ?_; (with_reducible refine (dioramalaw15_small.calls k _ _ l0 false _ ?side1 ?side2 A3.out).mono ?_); (case side1 => repeat (first | exact HR0.out | (with_reducible refine Kd.C_alloc ?_ _) | (with_reducible refine Kd.C_drewN ?_ _) | (with_reducible refine Kd.C_drew ?_))); (case side2 => exact HC0.out); rintro e w30 ⟨rfl, hb⟩; refine ⟨_, rfl, ?_⟩; have n0_ := Aside0.mk (below_step (by repeat (first | (with_reducible first | exact HB.out | apply below_alloc | apply pw_below_drewN | apply below_drew1) | exact HB.out)) hb); clear HB; have HB := n0_; clear n0_; (try clear hb); (try clear hb2); (try clear hk); (try clear hi)))
    go_ret
    exact ⟨by first | rfl | (simp [errW_none, errW_some] <;> rfl) | (simp [*, errW_none, errW_some] <;> rfl), by repeat (first | (with_reducible first | exact HB.out | apply below_alloc | apply pw_below_drewN | apply below_drew1) | exact HB.out)⟩
end Go.Proofs.YtphkionjjhhhlaaGreat.Q
end
section
namespace Go.Proofs.YtphkionjjhhhlaaGreat.Q
open Go.RowKit Go.Proofs.YtphkionjjhhhlaaGreatW.PrintWords Go.Proofs.YtphkionjjhhhlaaGreatW.PrintLast Go.Proofs.YtphkionjjhhhlaaGreatW.PrintMore
theorem rch_valid (l : List S68) (hch : ∀ k, 0 ≤ k → k < (l.length : Int) → ∀ c ∈ chI l k, 0 ≤ c ∧ c < (l.length : Int)) {k m : Int} (h : Rch (chI l) k m) : 0 ≤ k → k < (l.length : Int) → 0 ≤ m ∧ m < (l.length : Int) := by
  induction h with
  | one hc => intro h0 h1; exact hch _ h0 h1 _ hc
  | more hc _ ih =>
    intro h0 h1
    have := hch _ h0 h1 _ hc
    exact ih this.1 this.2
theorem needs_l0 (l : List S68) (r : List Int) (hr : ∀ m ∈ r, 0 ≤ m ∧ m < (l.length : Int)) (hrl : r.length < 1000) : ∀ (n j : Nat), j + n = r.length →
    Ev fun k => item_Needs.l0 k l ((r.take j).map fun m => (rd_T68 l m).f0) r (r.length : Int) j = some (r.map fun m => (rd_T68 l m).f0, 0) := by
  intro n
  induction n with
  | zero =>
    intro j hj
    refine Ev.const fun k => ?_
    rw [item_Needs.l0, if_neg (by omega), List.take_of_length_le (by omega)]
  | succ n ih =>
    intro j hj
    have hjl : j < r.length := by omega
    have hx : r[j]? = some r[j] := List.getElem?_eq_getElem hjl
    have hm := hr _ (List.getElem_mem hjl)
    have he : (r.take (j + 1)).map (fun m => (rd_T68 l m).f0) = (r.take j).map (fun m => (rd_T68 l m).f0) ++ [(rd_T68 l r[j]).f0] := by
      rw [List.take_add_one, hx, Option.toList_some, List.map_append]
      rfl
    refine Ev.step (fun k => ?_) (ih (j + 1) (by omega))
    rw [item_Needs.l0, if_pos (by omega), if_pos (by omega), if_pos (by omega), rd_at r j _ hx, if_pos hm.1, if_pos hm.2, if_pos (by rw [List.length_map, List.length_take]; omega), w64_succ j (by omega), ← he]
theorem needs_ref_l0 (l : List S68) (r : List Int) (hr : ∀ m ∈ r, 0 ≤ m ∧ m < (l.length : Int)) (hrl : r.length < 1000) : ∀ (n j : Nat), j + n = r.length →
    Ev fun k => dioramaref15_Needs.l0 k l r ((r.take j).map fun m => (rd_T68 l m).f0) j = some (r.map fun m => (rd_T68 l m).f0, 0) := by
  intro n
  induction n with
  | zero =>
    intro j hj
    refine Ev.const fun k => ?_
    rw [dioramaref15_Needs.l0, if_neg (by omega), List.take_of_length_le (by omega)]
  | succ n ih =>
    intro j hj
    have hjl : j < r.length := by omega
    have hx : r[j]? = some r[j] := List.getElem?_eq_getElem hjl
    have hm := hr _ (List.getElem_mem hjl)
    have he : (r.take (j + 1)).map (fun m => (rd_T68 l m).f0) = (r.take j).map (fun m => (rd_T68 l m).f0) ++ [(rd_T68 l r[j]).f0] := by
      rw [List.take_add_one, hx, Option.toList_some, List.map_append]
      rfl
    refine Ev.step (fun k => ?_) (ih (j + 1) (by omega))
    rw [dioramaref15_Needs.l0, if_pos (by omega), if_pos (by omega), rd_at r j _ hx, if_pos hm.1, if_pos hm.2, if_pos (by rw [List.length_map, List.length_take]; omega), w64_succ j (by omega), ← he]
theorem order_is (l : List S68) (hl : Fair l) (hch : ∀ k, 0 ≤ k → k < (l.length : Int) → ∀ c ∈ chI l k, 0 ≤ c ∧ c < (l.length : Int)) (hac : ∀ k, 0 ≤ k → k < (l.length : Int) → ¬ Rch (chI l) k k) (i : Int) (h0 : 0 ≤ i) (h1 : i < (l.length : Int)) :
    ∃ r, item_order.f l i = some r ∧ (Ev fun k => dioramaref15_visit.f k l i [] = some r) ∧ r.length ≤ l.length ∧ ∀ m ∈ r, 0 ≤ m ∧ m < (l.length : Int) := by
  have hlen := hl.len
  obtain ⟨r, hv⟩ := visit_is l (by omega) (fun x hx => by have := hl.each x hx; omega) hch hac (l.length + 1) i [] h0 h1 (by have := rank_le l.length (chI l) i; omega) (Nat.zero_le _)
  refine ⟨r, hv.here, hv.there, by have := hv.cnt; have := cntO_le l.length r; omega, fun m hm => ?_⟩
  rcases hv.new m hm with h | rfl | h
  · cases h
  · exact ⟨h0, h1⟩
  · exact rch_valid l hch h h0 h1
theorem needs_is (l : List S68) (hl : Fair l) (id : Int) : ∃ r : List Int × Int, (Ev fun k => item_Needs.f k l id = some r) ∧ (Ev fun k => dioramaref15_Needs.f k l id = some r) ∧ r.1.length ≤ 16 := by
  have hlen := hl.len
  obtain ⟨e, h1, h2, h3⟩ := checks_is l hl
  by_cases he : e.1 = 0
  · obtain ⟨hch, hac⟩ := h3 he
    by_cases hf : findI l id < 0
    · refine ⟨([], 5), ⟨0, fun k _ => ?_⟩, ?_, by simp⟩
      · unfold item_Needs.f item_ready.f
        rw [h1, Option.bind_some, if_pos he, if_pos hf]
        rfl
      · have : Ev fun k => dioramaref15_asked.f k l id = some ([], 5) := by
          refine Ev.bind h2 ?_
          obtain ⟨K, hK⟩ := find_is l (by omega) id
          exact ⟨K, fun k hk => by dsimp only; rw [if_pos he, hK k hk, Option.bind_some, if_pos hf]⟩
        exact Ev.bind this ⟨0, fun k _ => rfl⟩
    · have hr := findI_range l id
      have hfr : 0 ≤ findI l id ∧ findI l id < (l.length : Int) := by omega
      obtain ⟨r, g1, g2, g3, g4⟩ := order_is l hl hch hac (findI l id) hfr.1 hfr.2
      refine ⟨(r.map fun m => (rd_T68 l m).f0, 0), ?_, ?_, by rw [List.length_map]; omega⟩
      · obtain ⟨K, hK⟩ := needs_l0 l r g4 (by omega) r.length 0 (by omega)
        refine ⟨K, fun k hk => ?_⟩
        unfold item_Needs.f item_ready.f
        dsimp only
        rw [h1, Option.bind_some, if_pos he, if_neg hf, Option.bind_some]
        dsimp only
        rw [if_pos rfl, g1, Option.bind_some]
        exact hK k hk
      · have : Ev fun k => dioramaref15_asked.f k l id = some (r, 0) := by
          refine Ev.bind h2 ?_
          obtain ⟨K, hK⟩ := find_is l (by omega) id
          obtain ⟨K2, hK2⟩ := g2
          refine ⟨K + K2, fun k hk => ?_⟩
          dsimp only
          rw [if_pos he, hK k (by omega), Option.bind_some, if_neg hf, hK2 k (by omega), Option.bind_some]
        refine Ev.bind this ?_
        obtain ⟨K, hK⟩ := needs_ref_l0 l r g4 (by omega) r.length 0 (by omega)
        exact ⟨K, fun k hk => by dsimp only; rw [if_pos rfl]; exact hK k hk⟩
  · refine ⟨([], e.1), ⟨0, fun k _ => ?_⟩, ?_, by simp⟩
    · unfold item_Needs.f item_ready.f
      rw [h1, Option.bind_some, if_neg he]
      exact if_neg he
    · have : Ev fun k => dioramaref15_asked.f k l id = some ([], e.1) := by
        refine Ev.bind h2 ?_
        exact ⟨0, fun k _ => if_neg he⟩
      refine Ev.bind this ?_
      exact ⟨0, fun k _ => if_neg he⟩
theorem small_l0 (l : List S68) (hl : l.length ≤ 9223372036854775807) : ∀ (n j : Nat), j + n = l.length → ∃ r, (Ev fun k => dioramalaw15_small.l0 k l j = some r) ∧
    (r = true → l.length ≤ 16 ∧ ∀ x ∈ l.drop j, x.f3.length ≤ 100 ∧ x.f4.length ≤ 100 ∧ x.f9.length ≤ 100) := by
  intro n
  induction n with
  | zero =>
    intro j hj
    refine ⟨decide ((l.length : Int) ≤ 16), Ev.const (fun k => ?_), fun h => ⟨by have := of_decide_eq_true h; omega, ?_⟩⟩
    · rw [dioramalaw15_small.l0, if_neg (by omega)]
    · rw [List.drop_eq_nil_of_le (by omega)]
      intro x hx
      cases hx
  | succ n ih =>
    intro j hj
    have hjl : j < l.length := by omega
    have hx : l[j]? = some l[j] := List.getElem?_eq_getElem hjl
    have hrd := rdT68_at l j _ hx
    rw [drop_at l j _ hx]
    generalize l[j] = x at hx hrd
    have hw : wrap64 ((j : Int) + 1) = ((j + 1 : Nat) : Int) := by unfold wrap64; omega
    obtain ⟨r, hr, hr2⟩ := ih (j + 1) (by omega)
    have hst : ∀ k, dioramalaw15_small.l0 (k + 1) l j = if (x.f2.length : Int) > 20000 ∧ (x.f2.length : Int) ≤ 65536 ∨ (x.f3.length : Int) > 100 ∨ (x.f4.length : Int) > 100 ∨ (x.f9.length : Int) > 100 then some false else dioramalaw15_small.l0 k l ((j + 1 : Nat) : Int) := by
      intro k
      rw [dioramalaw15_small.l0, if_pos (by omega), if_pos (by omega), hrd, hw]
      by_cases h2 : (x.f2.length : Int) > 20000 <;> by_cases h2' : (x.f2.length : Int) ≤ 65536 <;> by_cases h3 : (x.f3.length : Int) > 100 <;> by_cases h4 : (x.f4.length : Int) > 100 <;> by_cases h9 : (x.f9.length : Int) > 100 <;> simp only [h2, h2', h3, h4, h9, if_true, if_false, and_true, true_and, and_false, false_and, or_true, true_or, or_false, false_or]
    by_cases hb : (x.f2.length : Int) > 20000 ∧ (x.f2.length : Int) ≤ 65536 ∨ (x.f3.length : Int) > 100 ∨ (x.f4.length : Int) > 100 ∨ (x.f9.length : Int) > 100
    · exact ⟨false, Ev.const fun k => by rw [hst, if_pos hb], fun h => by cases h⟩
    · refine ⟨r, Ev.step (fun k => by rw [hst, if_neg hb]) hr, fun h => ⟨(hr2 h).1, fun y hy => ?_⟩⟩
      rcases List.mem_cons.1 hy with rfl | hy
      · omega
      · exact (hr2 h).2 y hy
theorem small_ends (l : List S68) (hl : l.length ≤ 9223372036854775807) : ∃ r, (Ev fun k => dioramalaw15_small.f k l = some r) ∧ (r = true → Fair l) := by
  obtain ⟨r, h1, h2⟩ := small_l0 l hl l.length 0 (by omega)
  rw [List.drop_zero] at h2
  exact ⟨r, h1, fun h => ⟨(h2 h).1, (h2 h).2⟩⟩
theorem eq_ints_same (l : List Int) (hl : l.length ≤ 10000000) : Ev fun k => dioramaref00_EqInts.f k l l = some true := by
  refine Ev.mono (eq_ints l hl l.length 0 (by omega)) fun k hk => ?_
  unfold dioramaref00_EqInts.f
  rw [if_pos rfl]
  exact hk
theorem item_checks_law (l : List S68) (id : Int) (hll : l.length ≤ 9223372036854775807) : Ev fun k => dioramalaw15_ItemChecks.f k l id = some true := by
  obtain ⟨r, hr, hr2⟩ := small_ends l hll
  cases r with
  | false =>
    refine Ev.mono hr fun k hk => ?_
    unfold dioramalaw15_ItemChecks.f
    rw [hk]
    rfl
  | true =>
    have hl := hr2 rfl
    obtain ⟨e, h1, ⟨K2, h2⟩, _⟩ := checks_is l hl
    obtain ⟨q, ⟨K3, h3⟩, ⟨K4, h4⟩, hq⟩ := needs_is l hl id
    obtain ⟨K5, h5⟩ := eq_ints_same q.1 (by omega)
    obtain ⟨K1, hr⟩ := hr
    refine ⟨K1 + K2 + K3 + K4 + K5 + 1, fun k hk => ?_⟩
    unfold dioramalaw15_ItemChecks.f
    dsimp only
    rw [hr k (by omega), Option.bind_some, if_pos rfl, h1, Option.bind_some, h2 k (by omega), Option.bind_some, if_pos rfl]
    obtain ⟨k, rfl⟩ : ∃ m, k = m + 1 := ⟨k - 1, by omega⟩
    have hb : (e.2 != e.2) = false := by simp
    rw [hb, dioramalaw15_ItemChecks.j0, if_neg (by decide), h3 k (by omega), Option.bind_some, h4 k (by omega), Option.bind_some, if_pos rfl, h5 k (by omega), Option.bind_some, if_pos rfl]
    rfl
end Go.Proofs.YtphkionjjhhhlaaGreat.Q
end
