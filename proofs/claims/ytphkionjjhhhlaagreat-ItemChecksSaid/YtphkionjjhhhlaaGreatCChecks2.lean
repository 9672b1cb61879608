/- Lemmas and walks of this proof (part 2). -/
import Derived.Test.YtphkionjjhhhlaaGreatCChecks1
set_option linter.unusedVariables false
set_option linter.unusedSimpArgs false
section
namespace Go.Proofs.YtphkionjjhhhlaaGreat.Q
open Go.RowKit Go.Proofs.YtphkionjjhhhlaaGreatW.PrintWords Go.Proofs.YtphkionjjhhhlaaGreatW.PrintLast Go.Proofs.YtphkionjjhhhlaaGreatW.PrintMore
mutual
def dioramaref15_visit.l0 : Nat → List (S68) → Int → List Int → Int → Option (List Int)
  | 0, _, _, _, _ => none
  | k + 1, x0, x1, x2, x7 => if 0 ≤ x1 then (if x1 < (x0.length : Int) then (if x7 < (((rd_T68 x0 x1).f3).length : Int) then (if 0 ≤ x7 then ((dioramaref15_find.f k x0 (rd ((rd_T68 x0 x1).f3) x7)).bind fun t380 => ((dioramaref15_visit.f k x0 t380 x2).bind fun t381 => (dioramaref15_visit.l0 k x0 x1 t381 (wrap64 (x7 + 1))))) else (none)) else ((dioramaref00_HasInt.f k x2 x1).bind fun t384 => (if t384 ≥ 0 then (some x2) else ((dioramaref00_CopyInts.f k x2).bind fun t385 => (if t385.length < 17592186044416 then (some (t385 ++ [x1])) else (none)))))) else (none)) else (none)
def dioramaref15_visit.f : Nat → List (S68) → Int → List Int → Option (List Int)
  | 0, _, _, _ => none
  | k + 1, l0, a1, l2 => (dioramaref00_HasInt.f k l2 a1).bind fun t376 => (if t376 ≥ 0 then (some l2) else (dioramaref15_visit.l0 k l0 a1 l2 0))
end
set_option maxHeartbeats 8000000 in
set_option maxRecDepth 100000 in
theorem dioramaref15_visit.calls (k : Nat) : ∀ (A0 : Option Addr) (c0 : Nat) (l0 : List (S68)) (a1 : Int) (P2_ : Nat → Prop) (A2 : Option Addr) (c2 : Nat) (l2 : List Int) (r : List Int) (w : World) (hr0 : Kd.C k68 w A0 l0.length l0) (hc0 : l0.length ≤ c0) (hs2 : Kd.V (Kd.int .i64) 3 w w.heap.size (fun k_ => P2_ k_) (.slice A2 l2.length c2) l2) (h : dioramaref15_visit.f k l0 a1 l2 = some r),
    Calls Tryz.prog 118 #[.slice A0 l0.length c0, .int .i64 a1, .slice A2 l2.length c2] w fun e w' => ∃ v0_ : Value, e = .returned (v0_) ∧ Kd.V (Kd.int .i64) 3 w' w.heap.size (fun k_ => (P2_ k_ ∨ w.heap.size ≤ k_)) v0_ r ∧ Below w.heap.size w w' := by
  induction k using Nat.strongRecOn with
  | _ k ih =>
  intro A0 c0 l0 a1 P2_ A2 c2 l2 r w hr0 hc0 hs2 h
  cases k with
  | zero => exact absurd h (by simp [dioramaref15_visit.f])
  | succ k =>
  simp only [dioramaref15_visit.f] at h
  have HR0 := Aside0.mk hr0
  have HC0 := Aside0.mk hc0
  clear hr0 hc0
  have HO2 := Aside0.mk (show Kd.V (Kd.int .i64) 3 w w.heap.size (fun k_ => (P2_ k_ ∨ w.heap.size ≤ k_)) (.slice A2 l2.length c2) l2 from Kd.V_mono hs2 (fun k_ hk => .inl hk))
  have HB := Aside0.mk (Below.refl w.heap.size w)
  have H : ((dioramaref00_HasInt.f k l2 a1).bind fun t376 => (if t376 ≥ 0 then (some l2) else (dioramaref15_visit.l0 k l0 a1 l2 0))) = some r := h
  clear h
  replace H := Option.bind_eq_some_iff.mp H
  obtain ⟨t376, A40, H⟩ := H
  replace H : (if t376 ≥ 0 then (some l2) else (dioramaref15_visit.l0 k l0 a1 l2 0)) = some r := H
  have A4 := Aside0.mk A40
  clear A40
  by_cases c5 : t376 ≥ 0
  · rw [if_pos c5] at H
    have c5b0 : decide (0 ≤ t376) = true := decide_eq_true c5
    clear c5
    obtain rfl := Option.some.inj H
    go_enter Tryz.func118, Tryz.ntmps118
    go_wp2_with (first | ((with_reducible refine gate_callee (f := 159) rfl ?_); refine goesL_ (some 10) rfl rfl Tryz.func159 (by kernel_rfl) rfl #[.slice A2 l2.length c2, .int .i64 a1] rfl (by (try simp only [List.map_toArray, List.map_cons, List.map_nil]); first | done | rfl | (simp only [List.length_drop, List.length_take]; rfl)) ?_; (with_reducible refine (dioramaref00_HasInt.calls k _ _ l2 a1 t376 _ ?side1 ?side2 A4.out).mono ?_); (case side1 => repeat (first | exact (Kd.V_reads' HO2.out).2.2 | (with_reducible refine Kd.C_alloc ?_ _) | (with_reducible refine Kd.C_drewN ?_ _) | (with_reducible refine Kd.C_drew ?_))); (case side2 => exact (Kd.V_reads' HO2.out).2.1); rintro e w' ⟨rfl, ⟨nd, rfl⟩⟩; refine ⟨_, rfl, ?_⟩))
    go_ret
    exact ⟨_, by first | rfl | (simp [errW_none, errW_some] <;> rfl) | (simp [*, errW_none, errW_some] <;> rfl), by (with_reducible repeat (first | apply Kd.V_alloc | apply Kd.V_drewN | apply Kd.V_drew)); exact HO2.out, by repeat (first | (with_reducible first | exact HB.out | apply below_alloc | apply pw_below_drewN | apply below_drew1) | exact HB.out)⟩
  · rw [if_neg c5] at H
    have c5b0 : decide (0 ≤ t376) = false := decide_eq_false c5
    clear c5
    have H' := Aside0.mk H
    clear H
    go_enter Tryz.func118, Tryz.ntmps118
    go_wp2_with (first | ((with_reducible refine gate_callee (f := 159) rfl ?_); refine goesL_ (some 10) rfl rfl Tryz.func159 (by kernel_rfl) rfl #[.slice A2 l2.length c2, .int .i64 a1] rfl (by (try simp only [List.map_toArray, List.map_cons, List.map_nil]); first | done | rfl | (simp only [List.length_drop, List.length_take]; rfl)) ?_; (with_reducible refine (dioramaref00_HasInt.calls k _ _ l2 a1 t376 _ ?side1 ?side2 A4.out).mono ?_); (case side1 => repeat (first | exact (Kd.V_reads' HO2.out).2.2 | (with_reducible refine Kd.C_alloc ?_ _) | (with_reducible refine Kd.C_drewN ?_ _) | (with_reducible refine Kd.C_drew ?_))); (case side2 => exact (Kd.V_reads' HO2.out).2.1); rintro e w' ⟨rfl, ⟨nd, rfl⟩⟩; refine ⟨_, rfl, ?_⟩))
    go_loopg [2, 7] k (fun kq v2 v7 w' => ∃ (x2_1 : List Int) (x7_1 : Int), v7 = .int .i64 x7_1 ∧ Aside0 (dioramaref15_visit.l0 kq l0 a1 x2_1 x7_1 = some r) ∧ Aside0 (kq ≤ k) ∧ Aside0 (Kd.V (Kd.int .i64) 3 w' w.heap.size (fun k_ => (P2_ k_ ∨ w.heap.size ≤ k_)) v2 x2_1) ∧ Aside0 (Below w.heap.size w w'))
    case atStart => exact ⟨(l2), (0), (by first | rfl | (simp; done) | (simp [*]; done)), H', ⟨Nat.le_refl _⟩, ⟨by (with_reducible repeat (first | apply Kd.V_alloc | apply Kd.V_drewN | apply Kd.V_drew)); exact HO2.out⟩, ⟨by repeat (first | (with_reducible first | exact HB.out | apply below_alloc | apply pw_below_drewN | apply below_drew1) | exact HB.out)⟩⟩
    case round =>
      clear H'
      try clear c1
      try clear c2
      try clear p2
      try clear c5
      try clear c5b0
      obtain ⟨x2_1, x7_1, rfl, HA, HK1, HO_2, HB⟩ := hrel
      cases gk with
      | zero => exact absurd HA.out (by simp [dioramaref15_visit.l0])
      | succ k1 =>
        have H := HA.out
        clear HA
        simp only [dioramaref15_visit.l0] at H
        by_cases c6 : 0 ≤ a1
        · rw [if_pos c6] at H
          have c6b0 : decide (0 ≤ a1) = true := decide_eq_true c6
          clear c6
          by_cases c7 : a1 < (l0.length : Int)
          · rw [if_pos c7] at H
            have c7b0 : decide (a1 < (l0.length : Int)) = true := decide_eq_true c7
            clear c7
            by_cases c8 : x7_1 < (((rd_T68 l0 a1).f3).length : Int)
            · rw [if_pos c8] at H
              have c8b0 : decide (x7_1 < (((rd_T68 l0 a1).f3).length : Int)) = true := decide_eq_true c8
              clear c8
              by_cases c9 : 0 ≤ x7_1
              · rw [if_pos c9] at H
                have c9b0 : decide (0 ≤ x7_1) = true := decide_eq_true c9
                clear c9
                replace H := Option.bind_eq_some_iff.mp H
                obtain ⟨t380, A100, H⟩ := H
                replace H : ((dioramaref15_visit.f k1 l0 t380 x2_1).bind fun t381 => (dioramaref15_visit.l0 k1 l0 a1 t381 (wrap64 (x7_1 + 1)))) = some r := H
                have A10 := Aside0.mk A100
                clear A100
                replace H := Option.bind_eq_some_iff.mp H
                obtain ⟨t381, A110, H⟩ := H
                replace H : (dioramaref15_visit.l0 k1 l0 a1 t381 (wrap64 (x7_1 + 1))) = some r := H
                have A11 := Aside0.mk A110
                clear A110
                have H' := Aside0.mk H
                clear H
                have p377 : 0 ≤ (a1 : Int) := of_decide_eq_true (by first | (with_reducible assumption) | assumption)
                have q377 : a1 < (l0.length : Int) := of_decide_eq_true (by first | (with_reducible assumption) | assumption)
                obtain ⟨ad377, A377_2, c377_2, A377_3, c377_3, A377_4, c377_4, A377_9, c377_9, e377, hx377_0, hx377_1, hx377_2, hx377_3, hx377_4, hx377_5, hx377_6, hx377_7, hx377_8, hx377_9, hx377_10, hx377_11, hl377_2, hi377_2, hl377_3, hi377_3, hl377_4, hi377_4, hl377_9, hi377_9⟩ := at_T68 HR0.out a1 p377 q377
                cases e377
                replace hx377_0 := (HB.out.cell (World.block_lt_of_cell? w _ hx377_0)).trans hx377_0
                replace hx377_1 := (HB.out.cell (World.block_lt_of_cell? w _ hx377_1)).trans hx377_1
                replace hx377_2 := (HB.out.cell (World.block_lt_of_cell? w _ hx377_2)).trans hx377_2
                replace hx377_3 := (HB.out.cell (World.block_lt_of_cell? w _ hx377_3)).trans hx377_3
                replace hx377_4 := (HB.out.cell (World.block_lt_of_cell? w _ hx377_4)).trans hx377_4
                replace hx377_5 := (HB.out.cell (World.block_lt_of_cell? w _ hx377_5)).trans hx377_5
                replace hx377_6 := (HB.out.cell (World.block_lt_of_cell? w _ hx377_6)).trans hx377_6
                replace hx377_7 := (HB.out.cell (World.block_lt_of_cell? w _ hx377_7)).trans hx377_7
                replace hx377_8 := (HB.out.cell (World.block_lt_of_cell? w _ hx377_8)).trans hx377_8
                replace hx377_9 := (HB.out.cell (World.block_lt_of_cell? w _ hx377_9)).trans hx377_9
                replace hx377_10 := (HB.out.cell (World.block_lt_of_cell? w _ hx377_10)).trans hx377_10
                replace hx377_11 := (HB.out.cell (World.block_lt_of_cell? w _ hx377_11)).trans hx377_11
                have HR377_2 := Aside0.mk hi377_2
                have HC377_2 := Aside0.mk hl377_2
                clear hi377_2 hl377_2
                have HR377_3 := Aside0.mk hi377_3
                have HC377_3 := Aside0.mk hl377_3
                clear hi377_3 hl377_3
                have HR377_4 := Aside0.mk hi377_4
                have HC377_4 := Aside0.mk hl377_4
                clear hi377_4 hl377_4
                have HR377_9 := Aside0.mk hi377_9
                have HC377_9 := Aside0.mk hl377_9
                clear hi377_9 hl377_9
                replace p377 := eq_true p377
                replace q377 := eq_true q377
                have p378 : 0 ≤ (a1 : Int) := of_decide_eq_true (by first | (with_reducible assumption) | assumption)
                have q378 : a1 < (l0.length : Int) := of_decide_eq_true (by first | (with_reducible assumption) | assumption)
                obtain ⟨ad378, A378_2, c378_2, A378_3, c378_3, A378_4, c378_4, A378_9, c378_9, e378, hx378_0, hx378_1, hx378_2, hx378_3, hx378_4, hx378_5, hx378_6, hx378_7, hx378_8, hx378_9, hx378_10, hx378_11, hl378_2, hi378_2, hl378_3, hi378_3, hl378_4, hi378_4, hl378_9, hi378_9⟩ := at_T68 HR0.out a1 p378 q378
                obtain rfl : ad377 = ad378 := (by injection e378)
                replace hx378_0 := (HB.out.cell (World.block_lt_of_cell? w _ hx378_0)).trans hx378_0
                replace hx378_1 := (HB.out.cell (World.block_lt_of_cell? w _ hx378_1)).trans hx378_1
                replace hx378_2 := (HB.out.cell (World.block_lt_of_cell? w _ hx378_2)).trans hx378_2
                replace hx378_3 := (HB.out.cell (World.block_lt_of_cell? w _ hx378_3)).trans hx378_3
                replace hx378_4 := (HB.out.cell (World.block_lt_of_cell? w _ hx378_4)).trans hx378_4
                replace hx378_5 := (HB.out.cell (World.block_lt_of_cell? w _ hx378_5)).trans hx378_5
                replace hx378_6 := (HB.out.cell (World.block_lt_of_cell? w _ hx378_6)).trans hx378_6
                replace hx378_7 := (HB.out.cell (World.block_lt_of_cell? w _ hx378_7)).trans hx378_7
                replace hx378_8 := (HB.out.cell (World.block_lt_of_cell? w _ hx378_8)).trans hx378_8
                replace hx378_9 := (HB.out.cell (World.block_lt_of_cell? w _ hx378_9)).trans hx378_9
                replace hx378_10 := (HB.out.cell (World.block_lt_of_cell? w _ hx378_10)).trans hx378_10
                replace hx378_11 := (HB.out.cell (World.block_lt_of_cell? w _ hx378_11)).trans hx378_11
                have HR378_2 := Aside0.mk hi378_2
                have HC378_2 := Aside0.mk hl378_2
                clear hi378_2 hl378_2
                have HR378_3 := Aside0.mk hi378_3
                have HC378_3 := Aside0.mk hl378_3
                clear hi378_3 hl378_3
                have HR378_4 := Aside0.mk hi378_4
                have HC378_4 := Aside0.mk hl378_4
                clear hi378_4 hl378_4
                have HR378_9 := Aside0.mk hi378_9
                have HC378_9 := Aside0.mk hl378_9
                clear hi378_9 hl378_9
                replace p378 := eq_true p378
                replace q378 := eq_true q378
                have ea_ := Option.some.inj (hx377_2.symm.trans hx378_2)
                injection ea_ with ea_ en_ ec_
                subst ea_
                subst ec_
                clear en_
                have ea_ := Option.some.inj (hx377_3.symm.trans hx378_3)
                injection ea_ with ea_ en_ ec_
                subst ea_
                subst ec_
                clear en_
                have ea_ := Option.some.inj (hx377_4.symm.trans hx378_4)
                injection ea_ with ea_ en_ ec_
                subst ea_
                subst ec_
                clear en_
                have ea_ := Option.some.inj (hx377_9.symm.trans hx378_9)
                injection ea_ with ea_ en_ ec_
                subst ea_
                subst ec_
                clear en_
                have p379 : 0 ≤ (x7_1 : Int) := of_decide_eq_true (by first | (with_reducible assumption) | assumption)
                have q379 : x7_1 < (((rd_T68 l0 a1).f3).length : Int) := of_decide_eq_true (by first | (with_reducible assumption) | assumption)
                obtain ⟨ad379, e379, hx379_0⟩ := Kd.at_int HR378_3.out x7_1 p379 q379
                cases e379
                replace hx379_0 := (HB.out.cell (World.block_lt_of_cell? w _ hx379_0)).trans hx379_0
                replace p379 := eq_true p379
                replace q379 := eq_true q379
                go_wp2_with (first | ((with_reducible refine gate_callee (f := 61) rfl ?_); refine goesL_ (some 33) rfl rfl Tryz.func61 (by kernel_rfl) rfl #[.slice (some ad377) l0.length c0, .int .i64 (rd ((rd_T68 l0 a1).f3) x7_1)] rfl (by (try simp only [List.map_toArray, List.map_cons, List.map_nil]); first | done | rfl | (simp only [List.length_drop, List.length_take]; rfl)) ?_; (with_reducible refine (dioramaref15_find.calls k1 _ _ l0 (rd ((rd_T68 l0 a1).f3) x7_1) t380 _ ?side1 ?side2 A10.out).mono ?_); (case side1 => repeat (first | exact (Kd.C_below HR0.out HB.out) | (with_reducible refine Kd.C_alloc ?_ _) | (with_reducible refine Kd.C_drewN ?_ _) | (with_reducible refine Kd.C_drew ?_))); (case side2 => exact HC0.out); rintro e w' ⟨rfl, ⟨nd, rfl⟩⟩; refine ⟨_, rfl, ?_⟩; obtain ⟨Ao12, co12, eo12⟩ := Kd.V_slice HO_2.out; subst eo12) | ((with_reducible refine gate_callee (f := 118) rfl ?_); refine goesL_ (some 35) rfl rfl Tryz.func118 (by kernel_rfl) rfl #[.slice (some ad377) l0.length c0, .int .i64 t380, .slice Ao12 x2_1.length co12] rfl (by (try simp only [List.map_toArray, List.map_cons, List.map_nil]); first | done | rfl | (simp only [List.length_drop, List.length_take]; rfl)) ?_; (with_reducible refine (ih k1 (by have := HK1.out; omega) _ _ l0 t380 (fun k_ => (P2_ k_ ∨ w.heap.size ≤ k_)) _ _ x2_1 t381 _ ?side1 ?side2 ?side3 A11.out).mono ?_); (case side1 => repeat (first | exact (Kd.C_below HR0.out (by repeat (first | (with_reducible first | exact HB.out | apply below_alloc | apply pw_below_drewN | apply below_drew1) | exact HB.out))) | (with_reducible refine Kd.C_alloc ?_ _) | (with_reducible refine Kd.C_drewN ?_ _) | (with_reducible refine Kd.C_drew ?_))); (case side2 => exact HC0.out); (case side3 => exact HO_2.out); rintro e w13 ⟨v382, rfl, ho0, hb⟩; refine ⟨_, rfl, ?_⟩; have n0_ := Aside0.mk (Kd.V_below (by (with_reducible repeat (first | apply Kd.V_alloc | apply Kd.V_drewN | apply Kd.V_drew)); exact HO_2.out) hb); have n1_ := Aside0.mk (Kd.V_lower (Kd.V_mono (ok' := fun k_ => (P2_ k_ ∨ w.heap.size ≤ k_)) ho0 (fun k_ hk_ => Or.elim hk_ (fun hs_ => hs_) (fun hn_ => (.inr (Nat.le_trans (below_size (by repeat (first | (with_reducible first | exact HB.out | apply below_alloc | apply pw_below_drewN | apply below_drew1) | exact HB.out))) hn_))))) (below_size (by repeat (first | (with_reducible first | exact HB.out | apply below_alloc | apply pw_below_drewN | apply below_drew1) | exact HB.out)))); have n2_ := Aside0.mk (below_step (by repeat (first | (with_reducible first | exact HB.out | apply below_alloc | apply pw_below_drewN | apply below_drew1) | exact HB.out)) hb); clear HO_2; clear HB; have HO_2 := n0_; have HO383 := n1_; have HB := n2_; clear n0_ n1_ n2_; (try clear hb); (try clear hb2); (try clear hk); (try clear hi); (try clear ho0)))
                go_roundg k1
                case measure => have := HK1.out; omega
                case rel => exact ⟨(t381), (wrap64 (x7_1 + 1)), (by first | rfl | (simp; done) | (simp [*]; done)), H', ⟨by have := HK1.out; omega⟩, ⟨by (with_reducible repeat (first | apply Kd.V_alloc | apply Kd.V_drewN | apply Kd.V_drew)); exact HO383.out⟩, ⟨by repeat (first | (with_reducible first | exact HB.out | apply below_alloc | apply pw_below_drewN | apply below_drew1) | exact HB.out)⟩⟩
              · rw [if_neg c9] at H
                exact absurd H (by simp)
            · rw [if_neg c8] at H
              have c8b0 : decide (x7_1 < (((rd_T68 l0 a1).f3).length : Int)) = false := decide_eq_false c8
              clear c8
              replace H := Option.bind_eq_some_iff.mp H
              obtain ⟨t384, A140, H⟩ := H
              replace H : (if t384 ≥ 0 then (some x2_1) else ((dioramaref00_CopyInts.f k1 x2_1).bind fun t385 => (if t385.length < 17592186044416 then (some (t385 ++ [a1])) else (none)))) = some r := H
              have A14 := Aside0.mk A140
              clear A140
              by_cases c15 : t384 ≥ 0
              · rw [if_pos c15] at H
                have c15b0 : decide (0 ≤ t384) = true := decide_eq_true c15
                clear c15
                obtain rfl := Option.some.inj H
                have p377 : 0 ≤ (a1 : Int) := of_decide_eq_true (by first | (with_reducible assumption) | assumption)
                have q377 : a1 < (l0.length : Int) := of_decide_eq_true (by first | (with_reducible assumption) | assumption)
                obtain ⟨ad377, A377_2, c377_2, A377_3, c377_3, A377_4, c377_4, A377_9, c377_9, e377, hx377_0, hx377_1, hx377_2, hx377_3, hx377_4, hx377_5, hx377_6, hx377_7, hx377_8, hx377_9, hx377_10, hx377_11, hl377_2, hi377_2, hl377_3, hi377_3, hl377_4, hi377_4, hl377_9, hi377_9⟩ := at_T68 HR0.out a1 p377 q377
                cases e377
                replace hx377_0 := (HB.out.cell (World.block_lt_of_cell? w _ hx377_0)).trans hx377_0
                replace hx377_1 := (HB.out.cell (World.block_lt_of_cell? w _ hx377_1)).trans hx377_1
                replace hx377_2 := (HB.out.cell (World.block_lt_of_cell? w _ hx377_2)).trans hx377_2
                replace hx377_3 := (HB.out.cell (World.block_lt_of_cell? w _ hx377_3)).trans hx377_3
                replace hx377_4 := (HB.out.cell (World.block_lt_of_cell? w _ hx377_4)).trans hx377_4
                replace hx377_5 := (HB.out.cell (World.block_lt_of_cell? w _ hx377_5)).trans hx377_5
                replace hx377_6 := (HB.out.cell (World.block_lt_of_cell? w _ hx377_6)).trans hx377_6
                replace hx377_7 := (HB.out.cell (World.block_lt_of_cell? w _ hx377_7)).trans hx377_7
                replace hx377_8 := (HB.out.cell (World.block_lt_of_cell? w _ hx377_8)).trans hx377_8
                replace hx377_9 := (HB.out.cell (World.block_lt_of_cell? w _ hx377_9)).trans hx377_9
                replace hx377_10 := (HB.out.cell (World.block_lt_of_cell? w _ hx377_10)).trans hx377_10
                replace hx377_11 := (HB.out.cell (World.block_lt_of_cell? w _ hx377_11)).trans hx377_11
                have HR377_2 := Aside0.mk hi377_2
                have HC377_2 := Aside0.mk hl377_2
                clear hi377_2 hl377_2
                have HR377_3 := Aside0.mk hi377_3
                have HC377_3 := Aside0.mk hl377_3
                clear hi377_3 hl377_3
                have HR377_4 := Aside0.mk hi377_4
                have HC377_4 := Aside0.mk hl377_4
                clear hi377_4 hl377_4
                have HR377_9 := Aside0.mk hi377_9
                have HC377_9 := Aside0.mk hl377_9
                clear hi377_9 hl377_9
                replace p377 := eq_true p377
                replace q377 := eq_true q377
                obtain ⟨Ao16, co16, eo16⟩ := Kd.V_slice HO_2.out
                subst eo16
                go_wp2_with (first | ((with_reducible refine gate_callee (f := 159) rfl ?_); refine goesL_ (some 38) rfl rfl Tryz.func159 (by kernel_rfl) rfl #[.slice Ao16 x2_1.length co16, .int .i64 a1] rfl (by (try simp only [List.map_toArray, List.map_cons, List.map_nil]); first | done | rfl | (simp only [List.length_drop, List.length_take]; rfl)) ?_; (with_reducible refine (dioramaref00_HasInt.calls k1 _ _ x2_1 a1 t384 _ ?side1 ?side2 A14.out).mono ?_); (case side1 => repeat (first | exact (Kd.V_reads' HO_2.out).2.2 | (with_reducible refine Kd.C_alloc ?_ _) | (with_reducible refine Kd.C_drewN ?_ _) | (with_reducible refine Kd.C_drew ?_))); (case side2 => exact (Kd.V_reads' HO_2.out).2.1); rintro e w' ⟨rfl, ⟨nd, rfl⟩⟩; refine ⟨_, rfl, ?_⟩))
                go_ret
                exact ⟨_, by first | rfl | (simp [errW_none, errW_some] <;> rfl) | (simp [*, errW_none, errW_some] <;> rfl), by (with_reducible repeat (first | apply Kd.V_alloc | apply Kd.V_drewN | apply Kd.V_drew)); exact HO_2.out, by repeat (first | (with_reducible first | exact HB.out | apply below_alloc | apply pw_below_drewN | apply below_drew1) | exact HB.out)⟩
              · rw [if_neg c15] at H
                have c15b0 : decide (0 ≤ t384) = false := decide_eq_false c15
                clear c15
                replace H := Option.bind_eq_some_iff.mp H
                obtain ⟨t385, A170, H⟩ := H
                replace H : (if t385.length < 17592186044416 then (some (t385 ++ [a1])) else (none)) = some r := H
                have A17 := Aside0.mk A170
                clear A170
                by_cases c18 : t385.length < 17592186044416
                · rw [if_pos c18] at H
                  have LMc18 := Aside0.mk c18
                  clear c18
                  obtain ⟨y388, hy388⟩ : ∃ y_ : List Int, y_ = (t385 ++ [a1]) := ⟨_, rfl⟩
                  replace H : (some y388) = some r := by first | (rw [hy388]; with_reducible exact H) | (have H2_ := (Option.bind_some _ _).symm.trans H; rw [hy388]; with_reducible exact H2_) | (have H2_ := (Option.bind_some _ _).symm.trans H; with_reducible exact H2_) | with_reducible exact H | (rw [hy388]; exact H) | exact H
                  have Ny388 := Aside0.mk hy388
                  clear hy388
                  obtain rfl := Option.some.inj H
                  have p377 : 0 ≤ (a1 : Int) := of_decide_eq_true (by first | (with_reducible assumption) | assumption)
                  have q377 : a1 < (l0.length : Int) := of_decide_eq_true (by first | (with_reducible assumption) | assumption)
                  obtain ⟨ad377, A377_2, c377_2, A377_3, c377_3, A377_4, c377_4, A377_9, c377_9, e377, hx377_0, hx377_1, hx377_2, hx377_3, hx377_4, hx377_5, hx377_6, hx377_7, hx377_8, hx377_9, hx377_10, hx377_11, hl377_2, hi377_2, hl377_3, hi377_3, hl377_4, hi377_4, hl377_9, hi377_9⟩ := at_T68 HR0.out a1 p377 q377
                  cases e377
                  replace hx377_0 := (HB.out.cell (World.block_lt_of_cell? w _ hx377_0)).trans hx377_0
                  replace hx377_1 := (HB.out.cell (World.block_lt_of_cell? w _ hx377_1)).trans hx377_1
                  replace hx377_2 := (HB.out.cell (World.block_lt_of_cell? w _ hx377_2)).trans hx377_2
                  replace hx377_3 := (HB.out.cell (World.block_lt_of_cell? w _ hx377_3)).trans hx377_3
                  replace hx377_4 := (HB.out.cell (World.block_lt_of_cell? w _ hx377_4)).trans hx377_4
                  replace hx377_5 := (HB.out.cell (World.block_lt_of_cell? w _ hx377_5)).trans hx377_5
                  replace hx377_6 := (HB.out.cell (World.block_lt_of_cell? w _ hx377_6)).trans hx377_6
                  replace hx377_7 := (HB.out.cell (World.block_lt_of_cell? w _ hx377_7)).trans hx377_7
                  replace hx377_8 := (HB.out.cell (World.block_lt_of_cell? w _ hx377_8)).trans hx377_8
                  replace hx377_9 := (HB.out.cell (World.block_lt_of_cell? w _ hx377_9)).trans hx377_9
                  replace hx377_10 := (HB.out.cell (World.block_lt_of_cell? w _ hx377_10)).trans hx377_10
                  replace hx377_11 := (HB.out.cell (World.block_lt_of_cell? w _ hx377_11)).trans hx377_11
                  have HR377_2 := Aside0.mk hi377_2
                  have HC377_2 := Aside0.mk hl377_2
                  clear hi377_2 hl377_2
                  have HR377_3 := Aside0.mk hi377_3
                  have HC377_3 := Aside0.mk hl377_3
                  clear hi377_3 hl377_3
                  have HR377_4 := Aside0.mk hi377_4
                  have HC377_4 := Aside0.mk hl377_4
                  clear hi377_4 hl377_4
                  have HR377_9 := Aside0.mk hi377_9
                  have HC377_9 := Aside0.mk hl377_9
                  clear hi377_9 hl377_9
                  replace p377 := eq_true p377
                  replace q377 := eq_true q377
                  obtain ⟨Ao19, co19, eo19⟩ := Kd.V_slice HO_2.out
                  subst eo19
                  go_wp2_with (first | ((with_reducible refine gate_callee (f := 159) rfl ?_); refine goesL_ (some 38) rfl rfl Tryz.func159 (by kernel_rfl) rfl #[.slice Ao19 x2_1.length co19, .int .i64 a1] rfl (by (try simp only [List.map_toArray, List.map_cons, List.map_nil]); first | done | rfl | (simp only [List.length_drop, List.length_take]; rfl)) ?_; (with_reducible refine (dioramaref00_HasInt.calls k1 _ _ x2_1 a1 t384 _ ?side1 ?side2 A14.out).mono ?_); (case side1 => repeat (first | exact (Kd.V_reads' HO_2.out).2.2 | (with_reducible refine Kd.C_alloc ?_ _) | (with_reducible refine Kd.C_drewN ?_ _) | (with_reducible refine Kd.C_drew ?_))); (case side2 => exact (Kd.V_reads' HO_2.out).2.1); rintro e w' ⟨rfl, ⟨nd, rfl⟩⟩; refine ⟨_, rfl, ?_⟩) | ((with_reducible refine gate_callee (f := 88) rfl ?_); refine goesL_ (some 42) rfl rfl Tryz.func88 (by kernel_rfl) rfl #[.slice Ao19 x2_1.length co19] rfl (by (try simp only [List.map_toArray, List.map_cons, List.map_nil]); first | done | rfl | (simp only [List.length_drop, List.length_take]; rfl)) ?_; (with_reducible refine (dioramaref00_CopyInts.calls k1 _ _ x2_1 t385 _ ?side1 ?side2 A17.out).mono ?_); (case side1 => repeat (first | exact (Kd.V_reads' HO_2.out).2.2 | (with_reducible refine Kd.C_alloc ?_ _) | (with_reducible refine Kd.C_drewN ?_ _) | (with_reducible refine Kd.C_drew ?_))); (case side2 => exact (Kd.V_reads' HO_2.out).2.1); rintro e w20 ⟨v386, rfl, ho0, hb⟩; refine ⟨_, rfl, ?_⟩; have n0_ := Aside0.mk (Kd.V_elder' (by (with_reducible repeat (first | apply Kd.V_alloc | apply Kd.V_drewN | apply Kd.V_drew)); exact HO_2.out) (Kd.R_base ho0) hb); have n1_ := Aside0.mk (Kd.R_lower (Kd.R_newM (M := fun k_ => (w.heap.size ≤ k_)) ho0 (below_size (by repeat (first | (with_reducible first | exact HB.out | apply below_alloc | apply pw_below_drewN | apply below_drew1) | exact HB.out))) (fun k_ h_ => h_)) (below_size (by repeat (first | (with_reducible first | exact HB.out | apply below_alloc | apply pw_below_drewN | apply below_drew1) | exact HB.out)))); have n2_ := Aside0.mk (below_step (by repeat (first | (with_reducible first | exact HB.out | apply below_alloc | apply pw_below_drewN | apply below_drew1) | exact HB.out)) hb); clear HO_2; clear HB; have HO_2 := n0_; have HO387 := n1_; have HB := n2_; clear n0_ n1_ n2_; (try clear hb); (try clear hb2); (try clear hk); (try clear hi); (try clear ho0)) | ((with_reducible refine gate_builtin (b := .append) (xs := #[.tmp 42, .tmp 44]) rfl ?_); at_builtin; refine Kd.R_append (Kd.int .i64) (w0 := w) w.heap.size rfl (.tmp 42) (.tmp 44) 39 3 (.int .i64 0) 8 rfl Tryz.underlying39 info3 rfl (by decide) (by omega) v386 t385 a1 [.int .i64 a1] (fun k_ => (w.heap.size ≤ k_)) (fun _ => False) rfl rfl ?aP (fun _ hk => hk.elim) ?aF ?aO ?aB ?aS ?aL ?_; (case aP => exact rfl); (case aB => exact (by repeat (first | (with_reducible first | exact HB.out | apply below_alloc | apply pw_below_drewN | apply below_drew1) | exact HB.out))); (case aF => exact (fun k_ hk => (Nat.le_trans (below_size (by repeat (first | (with_reducible first | exact HB.out | apply below_alloc | apply pw_below_drewN | apply below_drew1) | exact HB.out))) hk))); (case aO => exact (by (with_reducible repeat (first | apply Kd.R_alloc | apply Kd.R_drewN | apply Kd.R_drew)); exact Kd.R_mono HO387.out (fun _ hk => hk.1))); (case aS => exact (below_size (by repeat (first | (with_reducible first | exact HB.out | apply below_alloc | apply pw_below_drewN | apply below_drew1) | exact HB.out)))); (case aL => have := LMc18.out; omega); intro v389 w21 ho hb hg hat; rw [← Ny388.out] at ho; have n0_ := Aside0.mk (Kd.V_afterv (ok := (fun k_ => (P2_ k_ ∨ w.heap.size ≤ k_))) (by (with_reducible repeat (first | apply Kd.V_alloc | apply Kd.V_drewN | apply Kd.V_drew)); exact HO_2.out) hg hat); have n1_ := Aside0.mk (hb); have n2_ := Aside0.mk (ho); clear HO_2; clear HB; clear HO387; have HO_2 := n0_; have HB := n1_; have HO390 := n2_; clear n0_ n1_ n2_; clear ho hb hg hat))
                  go_ret
                  exact ⟨_, by first | rfl | (simp [errW_none, errW_some] <;> rfl) | (simp [*, errW_none, errW_some] <;> rfl), Kd.V_mono (Kd.R_V (by (with_reducible repeat (first | apply Kd.R_alloc | apply Kd.R_drewN | apply Kd.R_drew)); exact HO390.out)) (fun k_ hk => by first | exact ⟨(.inr (hk.1)), hk.2⟩ | exact (.inr (hk))), by repeat (first | (with_reducible first | exact HB.out | apply below_alloc | apply pw_below_drewN | apply below_drew1) | exact HB.out)⟩
                · rw [if_neg c18] at H
                  exact absurd H (by simp)
          · rw [if_neg c7] at H
            exact absurd H (by simp)
        · rw [if_neg c6] at H
          exact absurd H (by simp)
end Go.Proofs.YtphkionjjhhhlaaGreat.Q
end
section
namespace Go.Proofs.YtphkionjjhhhlaaGreat.Q
open Go.RowKit Go.Proofs.YtphkionjjhhhlaaGreatW.PrintWords Go.Proofs.YtphkionjjhhhlaaGreatW.PrintLast Go.Proofs.YtphkionjjhhhlaaGreatW.PrintMore
def item_clone.f (a0_0 a0_1 a0_2 : Int) (l0_3 : List (List Int)) : Option (Int × Int × Int × List (List Int)) :=
  if l0_3.length < 5864062014805 ∧ (l0_3.all fun p => decide (p.length < 17592186044416)) = true then some (a0_0, a0_1, a0_2, l0_3) else none
def item_clone.T5 : Bool × List (List Nat × List Nat) := (true, [([], []), ([0], [0]), ([], []), ([], []), ([3], [3]), ([], []), ([4, 5], [4, 5]), ([6], [6]), ([7], [7]), ([1, 2, 0, 1, 2, 3, 4, 5, 6, 7, 8], [1, 2]), ([9, 8, 8, 0, 1, 2, 3, 4, 5, 6, 7, 8], [8, 9])])
def item_clone.B5 : List Nat := [0, 1, 0, 0, 8, 0, 56, 120, 248, 511, 1023]
theorem item_clone.tab5 : rtab .any (opsOf Tryz.f67 5) = item_clone.T5 := by kernel_rfl
theorem item_clone.bits5 : waitsOk item_clone.T5.2 item_clone.B5 = true := by kernel_rfl
set_option maxHeartbeats 16000000 in
set_option maxRecDepth 100000 in
theorem item_clone.calls (a0_0 : Int) (a0_1 : Int) (a0_2 : Int) (A0_3 : Option Addr) (c0_3 : Nat) (l0_3 : List (List Int)) (r1 : Int) (r2 : Int) (r3 : Int) (r4 : List (List Int)) (w : World) (hr0_3 : Kd.C (Kd.slice 3 (Kd.int .i64)) w A0_3 l0_3.length l0_3) (hc0_3 : l0_3.length ≤ c0_3) (h : item_clone.f a0_0 a0_1 a0_2 l0_3 = some (r1, r2, r3, r4)) :
    Calls Tryz.prog 67 #[.agg #[.int .i64 a0_0, .int .i64 a0_1, .int .i64 a0_2, .slice A0_3 l0_3.length c0_3]] w fun e w' => ∃ v3_ : Value, e = .returned (.agg #[.int .i64 r1, .int .i64 r2, .int .i64 r3, v3_]) ∧ Kd.S (Kd.slice 3 (Kd.int .i64)) 39 w' w.heap.size (fun _ => True) v3_ r4 ∧ Below w.heap.size w w' := by
  unfold item_clone.f at h
  split at h
  case isFalse => cases h
  case isTrue hk =>
  injection h with h
  injection h with h1 h2
  injection h2 with h2 h3
  injection h3 with h3 h4
  subst h1; subst h2; subst h3; subst h4
  have hu24 := Tryz.underlying24
  have HK := Aside0.mk hk
  have HR := Aside0.mk hr0_3
  clear hk hr0_3 hc0_3
  go_enter Tryz.func67, Tryz.ntmps67
  go_wp2_with (first | ((with_reducible refine gate_dst (N := 1) rfl ?_); refine box_event ?hg (N := 1) ?hd (cs := #[.int .i64 a0_0, .int .i64 a0_1, .int .i64 a0_2, .slice A0_3 l0_3.length c0_3]) (t := 24) ?hr ?_; (case hd => rfl); (case hg => rfl); (case hr => first | (go_simp; done) | (go_simp; rfl)); intro gb hggb w2 hboxgb hbgb; have BKb := Aside0.mk hboxgb; have HBb := Aside0.mk hbgb; have hgle : Aside0 (w.heap.size ≤ gb ∧ gb < w2.heap.size) := ⟨by omega, blk_lt hboxgb⟩; clear hboxgb hbgb hggb) | ((with_reducible refine gate_dst (N := 2) rfl ?_); refine box_event ?hg (N := 2) ?hd (cs := #[.int .i64 0, .int .i64 0, .int .i64 0, .slice none 0 0]) (t := 24) ?hr ?_; (case hd => rfl); (case hg => rfl); (case hr => first | (go_simp; done) | (go_simp; rfl)); intro gr hggr w3 hboxgr hbgr; have BKr := Aside0.mk hboxgr; have BKb2 := Aside0.mk (blk_below BKb.out hbgr); have HB3 := Aside0.mk (pw_below_trans HBb.out hbgr); have hgr : Aside0 (w.heap.size ≤ gr ∧ gr < w3.heap.size ∧ gb ≠ gr) := ⟨by have := HBb.out.size; omega, blk_lt hboxgr, by have := hgle.out; omega⟩; have k0 := (blk_cell BKb2.out 0).trans rfl; have k1 := (blk_cell BKb2.out 1).trans rfl; have k2 := (blk_cell BKb2.out 2).trans rfl; have k3 := (blk_cell BKb2.out 3).trans rfl; clear hboxgr hbgr hggr) | (go_at_call 119; (with_reducible refine (Clone_rows A0_3 c0_3 l0_3 w _ HR.out HB3.out HK.out.1).mono ?_); rintro e w4 ⟨v, rfl, hv, hb⟩; have HV := Aside0.mk (ClI.start (Kd.R_lower hv HB3.out.size)); obtain ⟨A4, c4, hv4⟩ := HV.out.size; subst hv4; have BKb4 := Aside0.mk (blk_below BKb2.out hb); have BKr4 := Aside0.mk (blk_below BKr.out hb); have HB4 := Aside0.mk (pw_below_trans HB3.out hb); have k3 := (blk_cell BKb4.out 3).trans rfl; have f3 := blk_frozen BKb4.out 3; have m3 : ∀ u : Value, (w4.setCell ⟨gb, 3, none⟩ u).cell? ⟨gb, 3, none⟩ = some u := fun u => (blk_cell (blk_put (cs' := #[.int .i64 a0_0, .int .i64 a0_1, .int .i64 a0_2, u]) BKb4.out 3 u rfl) 3).trans rfl; clear hv hb))
  clear k0 k1 k2 k3 f3
  go_loopg [11] l0_3.length (fun kq v11 w' => ∃ (i : Int), v11 = .int .i64 i ∧ Aside0 (0 ≤ i ∧ i + kq = l0_3.length) ∧ Aside0 (ClI w w' i.toNat (.slice A4 l0_3.length c4) l0_3) ∧ Aside0 (w'.heap[gb]? = some (.cells #[.int .i64 a0_0, .int .i64 a0_1, .int .i64 a0_2, .slice A4 l0_3.length c4] 24 (0, 0))) ∧ Aside0 (w'.heap[gr]? = some (.cells #[.int .i64 0, .int .i64 0, .int .i64 0, .slice none 0 0] 24 (0, 0))) ∧ Aside0 (Below w.heap.size w w'))
  case atStart => exact ⟨0, rfl, ⟨by omega, by omega⟩, ⟨(HV.out).set BKb4.out (by decide) 3 _⟩, ⟨blk_put BKb4.out 3 _ rfl⟩, ⟨blk_far BKr4.out (fun he => hgr.out.2.2 he.symm) _⟩, ⟨below_set HB4.out hgle.out.1⟩⟩
  case round =>
    clear HV BKb BKb2 BKb4 BKr BKr4 HB4 m3
    obtain ⟨i, rfl, HI, HV, BKb, BKr, HB⟩ := hrel
    cases gk with
    | zero =>
      have hge : decide (i < (l0_3.length : Int)) = false := by have := HI.out; simp; omega
      have hi : i.toNat = l0_3.length := by have := HI.out; omega
      rw [hi] at HV
      have S1 := Aside0.mk HV.out.done
      have k0 : wr.cell? ⟨gb, 0, none⟩ = some (.int .i64 a0_0) := (blk_cell BKb.out 0).trans rfl
      have k1 : wr.cell? ⟨gb, 1, none⟩ = some (.int .i64 a0_1) := (blk_cell BKb.out 1).trans rfl
      have k2 : wr.cell? ⟨gb, 2, none⟩ = some (.int .i64 a0_2) := (blk_cell BKb.out 2).trans rfl
      have k3 : wr.cell? ⟨gb, 3, none⟩ = some (.slice A4 l0_3.length c4) := (blk_cell BKb.out 3).trans rfl
      have q0 : wr.cell? ⟨gr, 0, none⟩ = some (.int .i64 0) := (blk_cell BKr.out 0).trans rfl
      have q1 : wr.cell? ⟨gr, 1, none⟩ = some (.int .i64 0) := (blk_cell BKr.out 1).trans rfl
      have q2 : wr.cell? ⟨gr, 2, none⟩ = some (.int .i64 0) := (blk_cell BKr.out 2).trans rfl
      have q3 : wr.cell? ⟨gr, 3, none⟩ = some (.slice none 0 0) := (blk_cell BKr.out 3).trans rfl
      have qf0 := blk_frozen BKr.out 0
      have qf1 := blk_frozen BKr.out 1
      have qf2 := blk_frozen BKr.out 2
      have qf3 := blk_frozen BKr.out 3
      go_wp2
      refine bodyPost_ret (results_cell_row rfl _ _ gr 24 #[.int .i64 a0_0, .int .i64 a0_1, .int .i64 a0_2, .slice A4 l0_3.length c4] (0, 0) _ rfl (four_put BKr.out _ _ _ _) Tryz.underlying24 rfl (by kernel_rfl)) rfl ?_
      exact ⟨_, rfl, four_S S1.out BKr.out (by decide) _ _ _ _, four_below HB.out hgr.out.1 _ _ _ _⟩
    | succ kq1 =>
      have h0 : 0 ≤ i := by have := HI.out; omega
      have h1 : i < (l0_3.length : Int) := by have := HI.out; omega
      have hge : decide (i < (l0_3.length : Int)) = true := decide_eq_true h1
      have hg0 : decide (0 ≤ i) = true := decide_eq_true h0
      have hil : i.toNat < l0_3.length := by omega
      have hx : l0_3[i.toNat]? = some l0_3[i.toNat] := List.getElem?_eq_getElem hil
      have HPL : Aside0 (l0_3[i.toNat].length < 17592186044416) := ⟨by have := List.all_eq_true.1 HK.out.2 _ (List.getElem_mem hil); simpa using this⟩
      generalize l0_3[i.toNat] = x at hx HPL
      have HX := Aside0.mk hx
      clear hx
      obtain ⟨gg, cg, cells, hv, hgw, hgb⟩ := HV.out.form (by omega)
      injection hv with hv1 _ hv2
      subst hv1; subst hv2
      obtain ⟨Ax, cx, hcx, hfx, hlx, hCx⟩ := HV.out.read HX.out
      have HG := Aside0.mk hgb
      have HGW := Aside0.mk hgw
      have HCX := Aside0.mk hCx
      have HLX := Aside0.mk hlx
      clear hgb hgw hlx hCx
      have hw : Aside0 (wrap64 (i + 1) = i + 1 ∧ (i + 1).toNat = i.toNat + 1) := ⟨by have := HI.out; have := HK.out.1; unfold wrap64; omega, by omega⟩
      replace h0 := eq_true h0
      replace h1 := eq_true h1
      clear hil
      go_wp2
      refine start_ (n := 11) (S := fun w' => w'.cell? ⟨gb, 3, none⟩ = some (.slice (some ⟨gg, 0, none⟩) l0_3.length c4) ∧ w'.cell? ⟨gg, i.toNat, none⟩ = some (.slice Ax x.length cx)) (ds := [10]) #[false, false, false, false, false, false, false, false, false, false, false] (by kernel_rfl) rfl rfl ⟨(blk_cell BKb.out 3).trans rfl, hcx⟩ (fun hHeld => ?_); refine with_tabW item_clone.tab5 item_clone.bits5 (fun HT_ HW_ => ?_)
      have n1 := Aside0.mk (HV.out.below (below_drew1 (Below.refl _ _)))
      have n2 := Aside0.mk (blk_drew BKb.out)
      have n3 := Aside0.mk (blk_drew BKr.out)
      have n4 := Aside0.mk (below_drew1 HB.out)
      have n5 := Aside0.mk (blk_drew HG.out)
      clear HV BKb BKr HB HG
      have HV := n1; have BKb := n2; have BKr := n3; have HB := n4; have HG := n5
      clear n1 n2 n3 n4 n5
      replace hcx : wr.drew.cell? ⟨gg, i.toNat, none⟩ = some (.slice Ax x.length cx) := hcx
      clear hfx
      generalize wr.drew = wd at HV BKb BKr HB HG hcx hHeld ⊢
      refine pure_ (i := 0) (N := some 14) (v := ?_) (a' := ?_) #[true, false, false, false, false, false, false, false, false, false, false] rfl rfl (any_of HT_.out (by kernel_rfl)) (fun _ _ _ h => h) (Or.inl ⟨by rfl, ?_⟩) ?_ ?_
      rotate_left
      · intro w'
        go_simp
        with_reducible rfl
      rotate_left
      · simp only [Act.put, List.setIfInBounds_toArray, List.set_cons_zero, List.set_cons_succ, i64_w, i32_w]
        rfl
      refine pure_ (i := 2) (N := some 16) (v := ?_) (a' := ?_) #[true, false, true, false, false, false, false, false, false, false, false] rfl rfl (any_of HT_.out (by kernel_rfl)) (fun _ _ _ h => h) (Or.inl ⟨by rfl, ?_⟩) ?_ ?_
      rotate_left
      · intro w'
        go_simp
        with_reducible rfl
      rotate_left
      · simp only [Act.put, List.setIfInBounds_toArray, List.set_cons_zero, List.set_cons_succ, i64_w, i32_w]
        rfl
      refine pure_ (i := 3) (N := some 17) (v := ?_) (a' := ?_) #[true, false, true, true, false, false, false, false, false, false, false] rfl rfl (any_of HT_.out (by kernel_rfl)) (fun _ _ _ h => h) (Or.inl ⟨by rfl, ?_⟩) ?_ ?_
      rotate_left
      · intro w'
        go_simp
        with_reducible rfl
      rotate_left
      · simp only [Act.put, List.setIfInBounds_toArray, List.set_cons_zero, List.set_cons_succ, i64_w, i32_w]
        rfl
      refine pure_ (i := 5) (N := some 19) (v := ?_) (a' := ?_) #[true, false, true, true, false, true, false, false, false, false, false] rfl rfl (any_of HT_.out (by kernel_rfl)) (fun _ _ _ h => h) (Or.inl ⟨by rfl, ?_⟩) ?_ ?_
      rotate_left
      · intro w'
        go_simp
        with_reducible rfl
      rotate_left
      · simp only [Act.put, List.setIfInBounds_toArray, List.set_cons_zero, List.set_cons_succ, i64_w, i32_w]
        rfl
      refine take_ (i := 1) (N := some 15) (v := ?_) (a' := ?_) #[true, true, true, true, false, true, false, false, false, false, false] rfl rfl (take_ofW HT_.out HW_.out (by kernel_rfl)) (fun _ _ _ h => h) (Or.inl ⟨by rfl, ?_⟩) hHeld ?_ ?_
      rotate_left
      · rintro w' ⟨s0, s1⟩
        go_simp
        with_reducible rfl
      rotate_left
      · simp only [Act.put, List.setIfInBounds_toArray, List.set_cons_zero, List.set_cons_succ, i64_w, i32_w]
        rfl
      refine take_ (i := 4) (N := some 18) (v := ?_) (a' := ?_) #[true, true, true, true, true, true, false, false, false, false, false] rfl rfl (take_ofW HT_.out HW_.out (by kernel_rfl)) (fun _ _ _ h => h) (Or.inl ⟨by rfl, ?_⟩) hHeld ?_ ?_
      rotate_left
      · rintro w' ⟨s0, s1⟩
        go_simp
        with_reducible rfl
      rotate_left
      · simp only [Act.put, List.setIfInBounds_toArray, List.set_cons_zero, List.set_cons_succ, i64_w, i32_w]
        rfl
      refine pure_ (i := 6) (N := some 20) (v := ?_) (a' := ?_) #[true, true, true, true, true, true, true, false, false, false, false] rfl rfl (any_of HT_.out (by kernel_rfl)) (fun _ _ _ h => h) (Or.inl ⟨by rfl, ?_⟩) ?_ ?_
      rotate_left
      · intro w'
        go_simp
        with_reducible rfl
      rotate_left
      · simp only [Act.put, List.setIfInBounds_toArray, List.set_cons_zero, List.set_cons_succ, i64_w, i32_w]
        rfl
      refine take_ (i := 7) (N := some 21) (v := ?_) (a' := ?_) #[true, true, true, true, true, true, true, true, false, false, false] rfl rfl (take_ofW HT_.out HW_.out (by kernel_rfl)) (fun _ _ _ h => h) (Or.inl ⟨by rfl, ?_⟩) hHeld ?_ ?_
      rotate_left
      · rintro w' ⟨s0, s1⟩
        go_simp
        with_reducible rfl
      rotate_left
      · simp only [Act.put, List.setIfInBounds_toArray, List.set_cons_zero, List.set_cons_succ, i64_w, i32_w]
        rfl
      refine one_ (i := 8) (N := some 22) #[true, true, true, true, true, true, true, true, true, false, false] rfl rfl (one_of HT_.out (by kernel_rfl)) (by decide) (fun K hK => ?_)
      refine goes_ Tryz.func120 (by kernel_rfl) rfl #[.slice Ax x.length cx] (by rfl) rfl rfl (by (try simp only [List.map_toArray, List.map_cons, List.map_nil]); first | done | rfl) ?_
      with_reducible refine (slices_Clone_int_int_120.calls Ax cx x x _ ?s1 HLX.out ?s3).mono ?_
      (case s1 => exact Kd.C_below HCX.out HB.out)
      (case s3 => exact if_pos HPL.out)
      rintro e w9 ⟨v9, rfl, hv9, hb9⟩
      obtain ⟨A9, c9, rfl⟩ := Kd.R_slice hv9
      refine ⟨_, rfl, ?_⟩
      have HV9 := Aside0.mk hv9
      have HB9 := Aside0.mk hb9
      have BKb9 := Aside0.mk (blk_below BKb.out hb9)
      have BKr9 := Aside0.mk (blk_below BKr.out hb9)
      have HG9 := Aside0.mk (blk_below HG.out hb9)
      clear hv9 hb9
      refine hK.out _ _ ⟨(blk_cell BKb9.out 3).trans rfl, (HB9.out.cell (World.block_lt_of_cell? wd _ hcx)).trans hcx⟩ (fun hHeld => ?_)
      clear hK K
      refine norm_ (a' := ?_) ?_ ?_
      rotate_left
      · show Act.put _ (some 22) _ = _
        simp only [Act.put, List.setIfInBounds_toArray, List.set_cons_zero, List.set_cons_succ, i64_w, i32_w]
        rfl
      refine pure_ (i := 9) (N := some 23) (v := ?_) (a' := ?_) #[true, true, true, true, true, true, true, true, true, true, false] rfl rfl (any_of HT_.out (by kernel_rfl)) (fun _ _ _ h => h) (Or.inl ⟨by rfl, ?_⟩) ?_ ?_
      rotate_left
      · intro w'
        go_simp
        with_reducible rfl
      rotate_left
      · simp only [Act.put, List.setIfInBounds_toArray, List.set_cons_zero, List.set_cons_succ, i64_w, i32_w]
        rfl
      refine last_ (i := 10) (N := none) #[true, true, true, true, true, true, true, true, true, true, true] rfl rfl (one_of HT_.out (by kernel_rfl)) (by decide) (fun K hK => ?_)
      have k9 := (HB9.out.cell (World.block_lt_of_cell? wd _ hcx)).trans hcx
      have f9 := blk_frozen HG9.out i.toNat
      refine skip_ (w1 := ?_) (by rfl) rfl ?_ ?_
      rotate_left
      · go_simp
        rfl
      refine hK.out _ _ ?_
      clear hK K
      refine done_ (done_of HT_.out (by kernel_rfl)) ?_
      go_wp2
      go_roundg kq1
      case measure => omega
      case rel => exact ⟨i + 1, congrArg _ hw.out.1, ⟨by have := HI.out; omega, by have := HI.out; omega⟩, ⟨by rw [hw.out.2]; exact HV.out.step HX.out HB9.out HV9.out (blk_lt HG.out) HB.out.size⟩, ⟨blk_far BKb9.out (ne_types BKb9.out HG9.out (by decide)) _⟩, ⟨blk_far BKr9.out (ne_types BKr9.out HG9.out (by decide)) _⟩, ⟨below_set (pw_below_trans HB.out HB9.out) HGW.out⟩⟩
end Go.Proofs.YtphkionjjhhhlaaGreat.Q
end
section
namespace Go.Proofs.YtphkionjjhhhlaaGreat.Q
open Go.RowKit Go.Proofs.YtphkionjjhhhlaaGreatW.PrintWords Go.Proofs.YtphkionjjhhhlaaGreatW.PrintLast Go.Proofs.YtphkionjjhhhlaaGreatW.PrintMore
def turnedF (a0 a1 a2 : Int) (l : List (List Int)) (q : Nat) (fl : Bool) : Int × Int × Int × List (List Int) :=
  let s := turnN q (a0.toNat, a1.toNat, l)
  ((s.1 : Int), (s.2.1 : Int), a2, if fl then s.2.2.map (flipP s.1 s.2.1) else s.2.2)
def item_turned.f (a0_0 a0_1 a0_2 : Int) (l0_3 : List (List Int)) (a1 : Int) (a2 : Bool) : Option (Int × Int × Int × List (List Int)) :=
  if (1 ≤ a0_0 ∧ a0_0 ≤ 1000 ∧ 1 ≤ a0_1 ∧ a0_1 ≤ 1000 ∧ 0 < l0_3.length ∧ l0_3.length ≤ 1000 ∧ 0 ≤ a1 ∧ a1 ≤ 3) ∧ (l0_3.all fun p => decide (p.length = a0_0.toNat * a0_1.toNat)) = true then some (turnedF a0_0 a0_1 a0_2 l0_3 a1.toNat a2) else none
def item_turned.T14 : Bool × List (List Nat × List Nat) := (true, [([], []), ([0], [0]), ([], []), ([1, 2], [1, 2]), ([3], [3]), ([], []), ([], []), ([6], [6]), ([5, 7], [5, 7]), ([], []), ([8, 9], [8, 9]), ([], []), ([], []), ([12], [12]), ([13], [13]), ([], []), ([14, 15], [14, 15]), ([], []), ([17], [17]), ([16, 18], [16, 18]), ([], []), ([19, 20], [19, 20]), ([11, 21], [11, 21]), ([22], [22]), ([4, 10, 0, 1, 2, 3, 4, 5, 6, 7, 8, 9, 10, 11, 12, 13, 14, 15, 16, 17, 18, 19, 20, 21, 22, 23], [4, 10]), ([24, 23, 0, 1, 2, 3, 4, 5, 6, 7, 8, 9, 10, 11, 12, 13, 14, 15, 16, 17, 18, 19, 20, 21, 22, 23], [23, 24])])
def item_turned.B14 : List Nat := [0, 1, 0, 7, 15, 0, 0, 64, 224, 0, 992, 0, 0, 4096, 12288, 0, 61440, 0, 131072, 520192, 0, 2093056, 4192256, 8386560, 16777215, 33554431]
theorem item_turned.tab14 : rtab .any (opsOf Tryz.f49 14) = item_turned.T14 := by kernel_rfl
theorem item_turned.bits14 : waitsOk item_turned.T14.2 item_turned.B14 = true := by kernel_rfl
set_option maxHeartbeats 32000000 in
set_option maxRecDepth 100000 in
theorem item_turned.calls (a0_0 : Int) (a0_1 : Int) (a0_2 : Int) (A0_3 : Option Addr) (c0_3 : Nat) (l0_3 : List (List Int)) (a1 : Int) (a2 : Bool) (r1 : Int) (r2 : Int) (r3 : Int) (r4 : List (List Int)) (w : World) (hr0_3 : Kd.C (Kd.slice 3 (Kd.int .i64)) w A0_3 l0_3.length l0_3) (hc0_3 : l0_3.length ≤ c0_3) (h : item_turned.f a0_0 a0_1 a0_2 l0_3 a1 a2 = some (r1, r2, r3, r4)) :
    Calls Tryz.prog 49 #[.agg #[.int .i64 a0_0, .int .i64 a0_1, .int .i64 a0_2, .slice A0_3 l0_3.length c0_3], .int .i64 a1, .bool a2] w fun e w' => ∃ v3_ : Value, e = .returned (.agg #[.int .i64 r1, .int .i64 r2, .int .i64 r3, v3_]) ∧ Kd.S (Kd.slice 3 (Kd.int .i64)) 39 w' w.heap.size (fun _ => True) v3_ r4 ∧ Below w.heap.size w w' := by
  unfold item_turned.f at h
  split at h
  case isFalse => cases h
  case isTrue hk =>
  have HC := Aside0.mk hc0_3
  have HK := Aside0.mk hk
  have HR := Aside0.mk hr0_3
  have hall : ∀ p ∈ l0_3, p.length = a0_0.toNat * a0_1.toNat := fun p hp => by simpa using List.all_eq_true.1 hk.2 p hp
  have hP : a0_0.toNat * a0_1.toNat ≤ 1000 * 1000 := Nat.mul_le_mul (by omega) (by omega)
  have HCL : Aside0 (item_clone.f a0_0 a0_1 a0_2 l0_3 = some (a0_0, a0_1, a0_2, l0_3)) := ⟨if_pos ⟨by omega, List.all_eq_true.2 fun p hp => by have := hall p hp; simp; omega⟩⟩
  have HOK : Aside0 (okPic (a0_0.toNat, a0_1.toNat, l0_3)) := ⟨⟨by show 1 ≤ a0_0.toNat; omega, by show a0_0.toNat ≤ 1000; omega, by show 1 ≤ a0_1.toNat; omega, by show a0_1.toNat ≤ 1000; omega, by show l0_3.length ≤ 1000; omega, hall⟩⟩
  have HF := Aside0.mk (Option.some.inj h)
  unfold turnedF at HF
  obtain ⟨cw0, hcw0⟩ : ∃ c : Nat, c = a0_0.toNat := ⟨_, rfl⟩
  obtain ⟨ch0, hch0⟩ : ∃ c : Nat, c = a0_1.toNat := ⟨_, rfl⟩
  rw [← hcw0, ← hch0] at HOK
  have EW : Aside0 (a0_0 = (cw0 : Int) ∧ a0_1 = (ch0 : Int)) := ⟨by omega, by omega⟩
  rw [← hcw0, ← hch0] at HF
  obtain ⟨fin, hfin⟩ : ∃ s, s = turnN a1.toNat (cw0, ch0, l0_3) := ⟨_, rfl⟩
  rw [← hfin] at HF
  have HFIN := Aside0.mk hfin.symm
  clear hfin hcw0 hch0 hall hP hk hr0_3 h hc0_3
  have hu24 := Tryz.underlying24
  have hu39 := Tryz.underlying39
  have hu22 := Tryz.underlying22
  go_enter Tryz.func49, Tryz.ntmps49
  go_wp2_with (first | ((with_reducible refine gate_dst (N := 3) rfl ?_); refine box_event ?hg (N := 3) ?hd (cs := #[.int .i64 a0_0, .int .i64 a0_1, .int .i64 a0_2, .slice A0_3 l0_3.length c0_3]) (t := 24) ?hr ?_; (case hd => rfl); (case hg => rfl); (case hr => first | (go_simp; done) | (go_simp; rfl)); intro g3 hgg3 w2 hboxg3 hbg3; have BKg3 := Aside0.mk hboxg3; have HB2 := Aside0.mk hbg3; have k0 : w2.cell? ⟨g3, 0, none⟩ = some (.int .i64 a0_0) := (blk_cell BKg3.out 0).trans rfl; have k1 : w2.cell? ⟨g3, 1, none⟩ = some (.int .i64 a0_1) := (blk_cell BKg3.out 1).trans rfl; have k2 : w2.cell? ⟨g3, 2, none⟩ = some (.int .i64 a0_2) := (blk_cell BKg3.out 2).trans rfl; have k3 : w2.cell? ⟨g3, 3, none⟩ = some (.slice A0_3 l0_3.length c0_3) := (blk_cell BKg3.out 3).trans rfl; clear hboxg3 hbg3 hgg3) | ((with_reducible refine gate_dst (N := 6) rfl ?_); refine box_event ?hg (N := 6) ?hd (cs := #[.int .i64 0, .int .i64 0, .int .i64 0, .slice none 0 0]) (t := 24) ?hr ?_; (case hd => rfl); (case hg => rfl); (case hr => first | (go_simp; done) | (go_simp; rfl)); intro g6 hgg6 w3 hboxg6 hbg6; have BKg6 := Aside0.mk hboxg6; have GE6 : Aside0 (w.heap.size ≤ g6) := ⟨by have := HB2.out.size; omega⟩; have HB3 := Aside0.mk (pw_below_trans HB2.out hbg6); replace BKg3 := Aside0.mk (blk_below BKg3.out hbg6); clear k0 k1 k2 k3; have k0 : w3.cell? ⟨g3, 0, none⟩ = some (.int .i64 a0_0) := (blk_cell BKg3.out 0).trans rfl; have k1 : w3.cell? ⟨g3, 1, none⟩ = some (.int .i64 a0_1) := (blk_cell BKg3.out 1).trans rfl; have k2 : w3.cell? ⟨g3, 2, none⟩ = some (.int .i64 a0_2) := (blk_cell BKg3.out 2).trans rfl; have k3 : w3.cell? ⟨g3, 3, none⟩ = some (.slice A0_3 l0_3.length c0_3) := (blk_cell BKg3.out 3).trans rfl; clear hboxg6 hbg6 hgg6) | (go_at_call 67; (with_reducible refine (item_clone.calls a0_0 a0_1 a0_2 A0_3 c0_3 l0_3 a0_0 a0_1 a0_2 l0_3 _ (Kd.C_below HR.out HB3.out) HC.out HCL.out).mono ?_); rintro e w4 ⟨v4, rfl, hs4, hb4⟩; obtain ⟨gO, cO, rfl, _, _, _⟩ := Kd.S_form hs4 HK.out.1.2.2.2.2.1; have HS4 := Aside0.mk (Kd.S_lower hs4 HB3.out.size); replace BKg6 := Aside0.mk (blk_below BKg6.out hb4); have HB4 := Aside0.mk (pw_below_trans HB3.out hb4); clear hs4 hb4) | ((with_reducible refine gate_dst (N := 7) rfl ?_); refine box_event ?hg (N := 7) ?hd (cs := #[.int .i64 0, .int .i64 0, .int .i64 0, .slice none 0 0]) (t := 24) ?hr ?_; (case hd => rfl); (case hg => rfl); (case hr => first | (go_simp; done) | (go_simp; rfl)); intro g7 hgg7 w5 hboxg7 hbg7; have BKg7 := Aside0.mk hboxg7; have GE7 : Aside0 (w.heap.size ≤ g7) := ⟨by have := HB4.out.size; omega⟩; have NE67 : Aside0 (g6 ≠ g7) := ⟨by have := blk_lt BKg6.out; omega⟩; replace BKg6 := Aside0.mk (blk_below BKg6.out hbg7); have HB5 := Aside0.mk (pw_below_trans HB4.out hbg7); have HS5 := Aside0.mk (Kd.S_below HS4.out hbg7); have z0 : w5.cell? ⟨g7, 0, none⟩ = some (.int .i64 0) := (blk_cell BKg7.out 0).trans rfl; have z1 : w5.cell? ⟨g7, 1, none⟩ = some (.int .i64 0) := (blk_cell BKg7.out 1).trans rfl; have z2 : w5.cell? ⟨g7, 2, none⟩ = some (.int .i64 0) := (blk_cell BKg7.out 2).trans rfl; have z3 : w5.cell? ⟨g7, 3, none⟩ = some (.slice none 0 0) := (blk_cell BKg7.out 3).trans rfl; have fz0 := blk_frozen BKg7.out 0; have fz1 := blk_frozen BKg7.out 1; have fz2 := blk_frozen BKg7.out 2; have fz3 := blk_frozen BKg7.out 3; clear hboxg7 hbg7 hgg7))
  clear z0 z1 z2 z3 fz0 fz1 fz2 fz3 k0 k1 k2 k3
  go_loopg [19] a1.toNat (fun kq v19 w' => ∃ (i : Int) (cw ch : Nat) (ps : List (List Int)) (gO cO : Nat), v19 = .int .i64 i ∧ Aside0 (0 ≤ i ∧ i + kq = a1) ∧ Aside0 (okPic (cw, ch, ps) ∧ ps.length = l0_3.length ∧ turnN kq (cw, ch, ps) = fin) ∧ Aside0 (Kd.S (Kd.slice 3 (Kd.int .i64)) 39 w' w.heap.size (fun _ => True) (.slice (some ⟨gO, 0, none⟩) l0_3.length cO) ps) ∧ Aside0 (w'.heap[g7]? = some (.cells #[.int .i64 (cw : Int), .int .i64 (ch : Int), .int .i64 a0_2, .slice (some ⟨gO, 0, none⟩) l0_3.length cO] 24 (0, 0))) ∧ Aside0 (w'.heap[g6]? = some (.cells #[.int .i64 0, .int .i64 0, .int .i64 0, .slice none 0 0] 24 (0, 0))) ∧ Aside0 (Below w.heap.size w w'))
  case atStart => exact ⟨0, cw0, ch0, l0_3, gO, cO, rfl, ⟨by omega, by have := HK.out; omega⟩, ⟨HOK.out, rfl, HFIN.out⟩, ⟨four_S HS5.out BKg7.out (by decide) _ _ _ _⟩, ⟨by rw [← EW.out.1, ← EW.out.2]; exact four_put BKg7.out _ _ _ _⟩, ⟨four_far BKg6.out NE67.out _ _ _ _⟩, ⟨four_below HB5.out GE7.out _ _ _ _⟩⟩
  case round =>
    clear BKg3 BKg6 BKg7 HS4 HS5 HB5 HB4 HB3 HB2 HOK HFIN EW
    obtain ⟨i, cw, ch, ps, gO, cO, rfl, HI, HP, HSO, BKg7, BKg6, HB⟩ := hrel
    have HPB : Aside0 (1 ≤ cw ∧ cw ≤ 1000 ∧ 1 ≤ ch ∧ ch ≤ 1000) := ⟨HP.out.1.1, HP.out.1.2.1, HP.out.1.2.2.1, HP.out.1.2.2.2.1⟩
    cases gk with
    | zero =>
      have hge : decide (i < a1) = false := by have := HI.out; simp; omega
      obtain rfl : (cw, ch, ps) = fin := HP.out.2.2
      have HFF := HF.out
      cases a2 with
      | false =>
        simp only [Bool.false_eq_true, if_false, Prod.mk.injEq] at HFF
        obtain ⟨h1, h2, h3, h4⟩ := HFF
        subst h1; subst h2; subst h3; subst h4
        have k0 : wr.cell? ⟨g7, 0, none⟩ = some (.int .i64 (cw : Int)) := (blk_cell BKg7.out 0).trans rfl
        have k1 : wr.cell? ⟨g7, 1, none⟩ = some (.int .i64 (ch : Int)) := (blk_cell BKg7.out 1).trans rfl
        have k2 : wr.cell? ⟨g7, 2, none⟩ = some (.int .i64 a0_2) := (blk_cell BKg7.out 2).trans rfl
        have k3 : wr.cell? ⟨g7, 3, none⟩ = some (.slice (some ⟨gO, 0, none⟩) l0_3.length cO) := (blk_cell BKg7.out 3).trans rfl
        have z0 : wr.cell? ⟨g6, 0, none⟩ = some (.int .i64 0) := (blk_cell BKg6.out 0).trans rfl
        have z1 : wr.cell? ⟨g6, 1, none⟩ = some (.int .i64 0) := (blk_cell BKg6.out 1).trans rfl
        have z2 : wr.cell? ⟨g6, 2, none⟩ = some (.int .i64 0) := (blk_cell BKg6.out 2).trans rfl
        have z3 : wr.cell? ⟨g6, 3, none⟩ = some (.slice none 0 0) := (blk_cell BKg6.out 3).trans rfl
        have f0 := blk_frozen BKg6.out 0
        have f1 := blk_frozen BKg6.out 1
        have f2 := blk_frozen BKg6.out 2
        have f3 := blk_frozen BKg6.out 3
        go_wp2
        refine bodyPost_ret (results_cell_row rfl _ _ g6 24 #[.int .i64 (cw : Int), .int .i64 (ch : Int), .int .i64 a0_2, .slice (some ⟨gO, 0, none⟩) l0_3.length cO] (0, 0) _ rfl (four_put BKg6.out _ _ _ _) Tryz.underlying24 rfl (by kernel_rfl)) rfl ?_
        exact ⟨_, rfl, four_S HSO.out BKg6.out (by decide) _ _ _ _, four_below HB.out GE6.out _ _ _ _⟩
      | true =>
        simp only [if_true, Prod.mk.injEq] at HFF
        obtain ⟨h1, h2, h3, h4⟩ := HFF
        subst h1; subst h2; subst h3; subst h4
        have k0 : wr.cell? ⟨g7, 0, none⟩ = some (.int .i64 (cw : Int)) := (blk_cell BKg7.out 0).trans rfl
        have k1 : wr.cell? ⟨g7, 1, none⟩ = some (.int .i64 (ch : Int)) := (blk_cell BKg7.out 1).trans rfl
        have k2 : wr.cell? ⟨g7, 2, none⟩ = some (.int .i64 a0_2) := (blk_cell BKg7.out 2).trans rfl
        have k3 : wr.cell? ⟨g7, 3, none⟩ = some (.slice (some ⟨gO, 0, none⟩) l0_3.length cO) := (blk_cell BKg7.out 3).trans rfl
        go_wp2
        clear k0 k1 k2 k3
        go_loopg [83] l0_3.length (fun kq v83 w' => ∃ (p : Int), v83 = .int .i64 p ∧ Aside0 (0 ≤ p ∧ p + kq = l0_3.length) ∧ Aside0 (Kd.S (Kd.slice 3 (Kd.int .i64)) 39 w' w.heap.size (fun _ => True) (.slice (some ⟨gO, 0, none⟩) l0_3.length cO) (fx cw ch ps p.toNat 0)) ∧ Aside0 (w'.heap[g7]? = some (.cells #[.int .i64 (cw : Int), .int .i64 (ch : Int), .int .i64 a0_2, .slice (some ⟨gO, 0, none⟩) l0_3.length cO] 24 (0, 0))) ∧ Aside0 (w'.heap[g6]? = some (.cells #[.int .i64 0, .int .i64 0, .int .i64 0, .slice none 0 0] 24 (0, 0))) ∧ Aside0 (Below w.heap.size w w'))
        case atStart => exact ⟨0, rfl, ⟨by omega, by omega⟩, ⟨by rw [show (0 : Int).toNat = 0 from rfl, fx_zero]; exact HSO.out⟩, BKg7, BKg6, HB⟩
        case round =>
          clear HSO BKg7 BKg6 HB hge
          obtain ⟨p, rfl, HPI, HSO, BKg7, BKg6, HB⟩ := hrel
          cases gk with
          | zero =>
            have hge : decide (p < (l0_3.length : Int)) = false := by have := HPI.out; simp; omega
            have hpn : p.toNat = ps.length := by have := HPI.out; have := HP.out.2.1; omega
            rw [hpn, fx_last] at HSO
            have k0 : wr.cell? ⟨g7, 0, none⟩ = some (.int .i64 (cw : Int)) := (blk_cell BKg7.out 0).trans rfl
            have k1 : wr.cell? ⟨g7, 1, none⟩ = some (.int .i64 (ch : Int)) := (blk_cell BKg7.out 1).trans rfl
            have k2 : wr.cell? ⟨g7, 2, none⟩ = some (.int .i64 a0_2) := (blk_cell BKg7.out 2).trans rfl
            have k3 : wr.cell? ⟨g7, 3, none⟩ = some (.slice (some ⟨gO, 0, none⟩) l0_3.length cO) := (blk_cell BKg7.out 3).trans rfl
            have z0 : wr.cell? ⟨g6, 0, none⟩ = some (.int .i64 0) := (blk_cell BKg6.out 0).trans rfl
            have z1 : wr.cell? ⟨g6, 1, none⟩ = some (.int .i64 0) := (blk_cell BKg6.out 1).trans rfl
            have z2 : wr.cell? ⟨g6, 2, none⟩ = some (.int .i64 0) := (blk_cell BKg6.out 2).trans rfl
            have z3 : wr.cell? ⟨g6, 3, none⟩ = some (.slice none 0 0) := (blk_cell BKg6.out 3).trans rfl
            have f0 := blk_frozen BKg6.out 0
            have f1 := blk_frozen BKg6.out 1
            have f2 := blk_frozen BKg6.out 2
            have f3 := blk_frozen BKg6.out 3
            go_wp2
            refine bodyPost_ret (results_cell_row rfl _ _ g6 24 #[.int .i64 (cw : Int), .int .i64 (ch : Int), .int .i64 a0_2, .slice (some ⟨gO, 0, none⟩) l0_3.length cO] (0, 0) _ rfl (four_put BKg6.out _ _ _ _) Tryz.underlying24 rfl (by kernel_rfl)) rfl ?_
            exact ⟨_, rfl, four_S HSO.out BKg6.out (by decide) _ _ _ _, four_below HB.out GE6.out _ _ _ _⟩
          | succ kq2 =>
            have p0 : 0 ≤ p := by have := HPI.out; omega
            have p1 : p < (l0_3.length : Int) := by have := HPI.out; omega
            have hpl : p.toNat < ps.length := by have := HP.out.2.1; omega
            have hlp : ps[p.toNat]? = some ps[p.toNat] := List.getElem?_eq_getElem hpl
            have hln : ps[p.toNat].length = cw * ch := HP.out.1.2.2.2.2.2 _ (List.getElem_mem hpl)
            have hNpos : Aside0 (0 < cw * ch ∧ cw * ch ≤ 1000000) := ⟨Nat.mul_pos (by have := HPB.out; omega) (by have := HPB.out; omega), by have := Nat.mul_le_mul HP.out.1.2.1 HP.out.1.2.2.2.1; exact this⟩
            generalize ps[p.toNat] = lp at hlp hln
            have HLP := Aside0.mk (And.intro hlp hln)
            obtain ⟨gp, cp, _, kp, _, _, _, _, _, _, _, _, _⟩ := S_row HSO.out p p0 p1 _ (fx_row cw ch ps p.toNat 0 lp hlp) (by rw [flipT_length]; have := hNpos.out; omega)
            rw [flipT_length, hln] at kp
            have KP := Aside0.mk kp
            clear hlp hln hpl
            have pd : decide (p < (l0_3.length : Int)) = true := decide_eq_true p1
            have pd0 : decide (0 ≤ p) = true := decide_eq_true p0
            replace p0 := eq_true p0
            replace p1 := eq_true p1
            have k0 : wr.cell? ⟨g7, 0, none⟩ = some (.int .i64 (cw : Int)) := (blk_cell BKg7.out 0).trans rfl
            have k1 : wr.cell? ⟨g7, 1, none⟩ = some (.int .i64 (ch : Int)) := (blk_cell BKg7.out 1).trans rfl
            have k2 : wr.cell? ⟨g7, 2, none⟩ = some (.int .i64 a0_2) := (blk_cell BKg7.out 2).trans rfl
            have k3 : wr.cell? ⟨g7, 3, none⟩ = some (.slice (some ⟨gO, 0, none⟩) l0_3.length cO) := (blk_cell BKg7.out 3).trans rfl
            go_wp2
            clear k0 k1 k2 k3 kp
            go_loopg [89] ch (fun kq v89 w' => ∃ (y : Int), v89 = .int .i64 y ∧ Aside0 (0 ≤ y ∧ y + kq = ch) ∧ Aside0 (Kd.S (Kd.slice 3 (Kd.int .i64)) 39 w' w.heap.size (fun _ => True) (.slice (some ⟨gO, 0, none⟩) l0_3.length cO) (fx cw ch ps p.toNat y.toNat)) ∧ Aside0 (w'.cell? ⟨gO, p.toNat, none⟩ = some (.slice (some ⟨gp, 0, none⟩) (cw * ch) cp)) ∧ Aside0 (w'.heap[g7]? = some (.cells #[.int .i64 (cw : Int), .int .i64 (ch : Int), .int .i64 a0_2, .slice (some ⟨gO, 0, none⟩) l0_3.length cO] 24 (0, 0))) ∧ Aside0 (w'.heap[g6]? = some (.cells #[.int .i64 0, .int .i64 0, .int .i64 0, .slice none 0 0] 24 (0, 0))) ∧ Aside0 (Below w.heap.size w w'))
            case atStart => exact ⟨0, rfl, ⟨by omega, by omega⟩, HSO, KP, BKg7, BKg6, HB⟩
            case round =>
              clear HSO BKg7 BKg6 HB KP
              obtain ⟨y, rfl, HY, HSO, KP, BKg7, BKg6, HB⟩ := hrel
              cases gk with
              | zero =>
                have hge : decide (y < (ch : Int)) = false := by have := HY.out; simp; omega
                have hy : y.toNat = ch := by have := HY.out; omega
                rw [hy, fx_next] at HSO
                have hw : Aside0 (wrap64 (p + 1) = p + 1 ∧ (p + 1).toNat = p.toNat + 1) := ⟨by have := HPI.out; have := HK.out; unfold wrap64; omega, by have := HPI.out; omega⟩
                go_wp2
                go_roundg kq2
                case measure => omega
                case rel => exact ⟨p + 1, congrArg _ hw.out.1, ⟨by have := HPI.out; omega, by have := HPI.out; omega⟩, ⟨by rw [hw.out.2]; exact HSO.out⟩, BKg7, BKg6, HB⟩
              | succ kq3 =>
                have hy1 : y < (ch : Int) := by have := HY.out; omega
                have yd : decide (y < (ch : Int)) = true := decide_eq_true hy1
                have hch : (ch : Int) ≤ 1000 := by have := HPB.out; omega
                have hcw : (cw : Int) ≤ 1000 := by have := HPB.out; omega
                have e1 : y * (cw : Int) = ((y.toNat * cw : Nat) : Int) := by rw [Int.natCast_mul]; congr 1; have := HY.out; omega
                have e2 : (y + 1) * (cw : Int) = ((y.toNat * cw + cw : Nat) : Int) := by rw [Int.add_mul, e1]; omega
                have b1 : y.toNat * cw + cw ≤ cw * ch := by rw [← Nat.succ_mul, Nat.mul_comm cw ch]; exact Nat.mul_le_mul_right _ (by have := HY.out; omega)
                have hNl := hNpos.out.2
                obtain ⟨gq, cq, okq, kq, hokq, hqN, _, hbq, hlq, ⟨cellsq, hcq⟩, hRq, hcap, hback⟩ := S_row HSO.out p (of_eq_true p0) (of_eq_true p1) _ (fx_row cw ch ps p.toNat y.toNat lp HLP.out.1) (by rw [flipT_length, HLP.out.2]; exact hNpos.out.1)
                rw [flipT_length, HLP.out.2] at kq hRq hback hcap
                have hsame := kq.symm.trans KP.out
                simp only [Option.some.injEq, Value.slice.injEq, Addr.mk.injEq, true_and, and_true] at hsame
                obtain ⟨hs1, hs2⟩ := hsame
                subst hs1; subst hs2
                have HRQ := Aside0.mk hRq
                have HCQ := Aside0.mk hcq
                have HBQ := Aside0.mk hbq
                have HBK := Aside0.mk (And.intro (fun w1 row' a b => hback w1 row' a b) hqN)
                obtain ⟨q1, hq1, v1⟩ : ∃ q, wrap64 (y * (cw : Int)) = q ∧ q = ((y.toNat * cw : Nat) : Int) := ⟨_, rfl, by rw [e1]; unfold wrap64; omega⟩
                obtain ⟨q2, hq2, v2⟩ : ∃ q, wrap64 (y + 1) = q ∧ q = y + 1 := ⟨_, rfl, by have := HY.out; unfold wrap64; omega⟩
                obtain ⟨q3, hq3, v3⟩ : ∃ q, wrap64 (q2 * (cw : Int)) = q ∧ q = ((y.toNat * cw + cw : Nat) : Int) := ⟨_, rfl, by rw [v2, e2]; unfold wrap64; omega⟩
                have hw : Aside0 (q2 = y + 1 ∧ (y + 1).toNat = y.toNat + 1 ∧ q1.toNat = y.toNat * cw ∧ q3.toNat = y.toNat * cw + cw ∧ (q3 - q1).toNat = cw) := ⟨v2, by have := HY.out; omega, by omega, by omega, by omega⟩
                have s1 : decide (0 ≤ q1) = true := decide_eq_true (by omega)
                have s2 : decide (q1 ≤ q3) = true := decide_eq_true (by omega)
                have s3 : decide (q3 ≤ (cq : Int)) = true := decide_eq_true (by omega)
                have r1_ : (0 ≤ q1) = True := eq_true (by omega)
                have r2_ : (q1 ≤ q3) = True := eq_true (by omega)
                have r3_ : (q3 ≤ (cq : Int)) = True := eq_true (by omega)
                have r4_ : (0 ≤ q3) = True := eq_true (by omega)
                have s4 : decide (0 ≤ q3) = true := decide_eq_true (by omega)
                have hc1 := HPB.out.1
                have HT : Aside0 (q1.toNat < cq) := ⟨by omega⟩
                have HMM := Aside0.mk b1
                clear hc1 e1 e2 b1 hNl hch hcw hy1 v1 v2 v3 hcap hback hokq hqN hbq hlq hRq hcq kq
                have k0 : wr.cell? ⟨g7, 0, none⟩ = some (.int .i64 (cw : Int)) := (blk_cell BKg7.out 0).trans rfl
                have k1 : wr.cell? ⟨g7, 1, none⟩ = some (.int .i64 (ch : Int)) := (blk_cell BKg7.out 1).trans rfl
                have k2 : wr.cell? ⟨g7, 2, none⟩ = some (.int .i64 a0_2) := (blk_cell BKg7.out 2).trans rfl
                have k3 : wr.cell? ⟨g7, 3, none⟩ = some (.slice (some ⟨gO, 0, none⟩) l0_3.length cO) := (blk_cell BKg7.out 3).trans rfl
                go_wp2_with (go_at_call 108; (with_reducible refine (Reverse_at _ w.heap.size okq gq (cw * ch) cq (flipT cw lp y.toNat) HRQ.out q1.toNat (q3.toNat - q1.toNat) (cq - q1.toNat) ?hm1 ?hm2).mono ?_); (case hm1 => have := hw.out; have := HMM.out; have := HLP.out.2; rw [flipT_length]; omega); (case hm2 => have := hNpos.out; have := HLP.out.2; rw [flipT_length]; omega); rintro e w9 ⟨rfl, hr9, hg9⟩; have HR9 := Aside0.mk hr9; have HG9 := Aside0.mk hg9; clear hr9 hg9)
                any_goals (exfalso; have := HT.out; omega)
                go_roundg kq3
                case measure => omega
                case rel => exact ⟨y + 1, by rw [hq2, hw.out.1], ⟨by have := HY.out; omega, by have := HY.out; omega⟩, ⟨by
                  have h9 := HR9.out
                  rw [show q3.toNat - q1.toNat = cw by have := hw.out; omega, hw.out.2.2.1] at h9
                  have h10 := HBK.out.1 _ _ HG9.out h9
                  rw [fx_set cw ch ps p.toNat y.toNat lp HLP.out.1] at h10
                  rw [hw.out.2.1]
                  exact h10⟩, ⟨HG9.out.cell KP.out (fun he => HBK.out.2 (by injection he with he; exact he.symm))⟩, ⟨blk_grown BKg7.out HG9.out (fun he => ne_types BKg7.out HCQ.out (by decide) (by injection he))⟩, ⟨blk_grown BKg6.out HG9.out (fun he => ne_types BKg6.out HCQ.out (by decide) (by injection he))⟩, ⟨HB.out.grown HG9.out HB.out.size (fun k hk => by injection hk with hk; subst hk; exact HBQ.out)⟩⟩
    | succ kq1 =>
      have hlt : decide (i < a1) = true := by have := HI.out; simp; omega
      have HBL := Aside0.mk (blank_is (ch : Int) (cw : Int) a0_2 (by have := HPB.out; omega) (by have := HPB.out; omega) l0_3.length (by have := HK.out; omega))
      have k0 : wr.cell? ⟨g7, 0, none⟩ = some (.int .i64 (cw : Int)) := (blk_cell BKg7.out 0).trans rfl
      have k1 : wr.cell? ⟨g7, 1, none⟩ = some (.int .i64 (ch : Int)) := (blk_cell BKg7.out 1).trans rfl
      have k2 : wr.cell? ⟨g7, 2, none⟩ = some (.int .i64 a0_2) := (blk_cell BKg7.out 2).trans rfl
      have k3 : wr.cell? ⟨g7, 3, none⟩ = some (.slice (some ⟨gO, 0, none⟩) l0_3.length cO) := (blk_cell BKg7.out 3).trans rfl
      go_wp2_with (first | (go_at_call 107; (with_reducible refine (item_blank.calls (l0_3.length + 1) (ch : Int) (cw : Int) a0_2 (l0_3.length : Int) _ _ _ _ _ HBL.out).mono ?_); rintro e w7 ⟨v7, rfl, hs7, hb7⟩; obtain ⟨gN, cN, rfl, _, _, _⟩ := Kd.S_form hs7 (by rw [List.length_replicate]; exact HK.out.1.2.2.2.2.1); rw [List.length_replicate]; have HSN := Aside0.mk hs7; rw [List.length_replicate] at HSN; replace HSO := Aside0.mk (Kd.S_old HSO.out hb7); replace BKg7 := Aside0.mk (blk_below BKg7.out hb7); replace BKg6 := Aside0.mk (blk_below BKg6.out hb7); have HB7 := Aside0.mk (pw_below_trans HB.out hb7); have HNB := Aside0.mk hb7.size; clear hs7 hb7) | ((with_reducible refine gate_dst (N := 8) rfl ?_); refine box_event ?hg (N := 8) ?hd (cs := #[.int .i64 0, .int .i64 0, .int .i64 0, .slice none 0 0]) (t := 24) ?hr ?_; (case hd => rfl); (case hg => rfl); (case hr => first | (go_simp; done) | (go_simp; rfl)); intro g8 hgg8 w8 hboxg8 hbg8; have BKg8 := Aside0.mk hboxg8; have GE8 : Aside0 (w.heap.size ≤ g8) := ⟨by have := HB7.out.size; omega⟩; have NE : Aside0 (g6 ≠ g8 ∧ g7 ≠ g8) := ⟨by have := blk_lt BKg6.out; omega, by have := blk_lt BKg7.out; omega⟩; replace BKg6 := Aside0.mk (blk_below BKg6.out hbg8); replace BKg7 := Aside0.mk (blk_below BKg7.out hbg8); have HB8 := Aside0.mk (pw_below_trans HB7.out hbg8); replace HSO := Aside0.mk (Kd.S_below HSO.out hbg8); replace HSN := Aside0.mk (Kd.S_below HSN.out hbg8); replace HNB := Aside0.mk (Nat.le_trans HNB.out hbg8.size); have z0 : w8.cell? ⟨g8, 0, none⟩ = some (.int .i64 0) := (blk_cell BKg8.out 0).trans rfl; have z1 : w8.cell? ⟨g8, 1, none⟩ = some (.int .i64 0) := (blk_cell BKg8.out 1).trans rfl; have z2 : w8.cell? ⟨g8, 2, none⟩ = some (.int .i64 0) := (blk_cell BKg8.out 2).trans rfl; have z3 : w8.cell? ⟨g8, 3, none⟩ = some (.slice none 0 0) := (blk_cell BKg8.out 3).trans rfl; have fz0 := blk_frozen BKg8.out 0; have fz1 := blk_frozen BKg8.out 1; have fz2 := blk_frozen BKg8.out 2; have fz3 := blk_frozen BKg8.out 3; have m7 : ∀ v0 v1 v2 v3 : Value, ((((w8.setCell ⟨g8, 0, none⟩ v0).setCell ⟨g8, 1, none⟩ v1).setCell ⟨g8, 2, none⟩ v2).setCell ⟨g8, 3, none⟩ v3).cell? ⟨g7, 3, none⟩ = some (.slice (some ⟨gO, 0, none⟩) l0_3.length cO) := fun v0 v1 v2 v3 => (blk_cell (four_far BKg7.out NE.out.2 v0 v1 v2 v3) 3).trans rfl; clear hboxg8 hbg8 hgg8))
      clear z0 z1 z2 z3 fz0 fz1 fz2 fz3 k0 k1 k2 k3 m7
      obtain ⟨NB, hNB⟩ : ∃ b, b = wr.heap.size := ⟨_, rfl⟩
      rw [← hNB] at HSO HSN HNB
      have HWN : Aside0 (w.heap.size ≤ NB) := ⟨by rw [hNB]; exact HB.out.size⟩
      have hbl : (List.replicate l0_3.length (List.replicate ((ch : Int) * (cw : Int)).toNat 0) : List (List Int)) = nx cw ch ps 0 0 := by
        rw [nx_zero, HP.out.2.1, show ((ch : Int) * (cw : Int)).toNat = cw * ch by rw [← Int.natCast_mul, Int.toNat_natCast, Nat.mul_comm]]
      rw [hbl] at HSN
      clear hbl hNB HB HBL
      have hNpos : Aside0 (0 < cw * ch ∧ cw * ch ≤ 1000000) := ⟨Nat.mul_pos (by have := HP.out.1.1; exact this) (by have := HP.out.1.2.2.1; exact this), by have := Nat.mul_le_mul HP.out.1.2.1 HP.out.1.2.2.2.1; exact this⟩
      go_loopg [34] l0_3.length (fun kq v34 w' => ∃ (p : Int), v34 = .int .i64 p ∧ Aside0 (0 ≤ p ∧ p + kq = l0_3.length) ∧ Aside0 (Kd.S (Kd.slice 3 (Kd.int .i64)) 39 w' w.heap.size (fun k => True ∧ k < NB) (.slice (some ⟨gO, 0, none⟩) l0_3.length cO) ps) ∧ Aside0 (Kd.S (Kd.slice 3 (Kd.int .i64)) 39 w' NB (fun _ => True) (.slice (some ⟨gN, 0, none⟩) l0_3.length cN) (nx cw ch ps p.toNat 0)) ∧ Aside0 (w'.heap[g7]? = some (.cells #[.int .i64 (cw : Int), .int .i64 (ch : Int), .int .i64 a0_2, .slice (some ⟨gO, 0, none⟩) l0_3.length cO] 24 (0, 0))) ∧ Aside0 (w'.heap[g8]? = some (.cells #[.int .i64 (ch : Int), .int .i64 (cw : Int), .int .i64 a0_2, .slice (some ⟨gN, 0, none⟩) l0_3.length cN] 24 (0, 0))) ∧ Aside0 (w'.heap[g6]? = some (.cells #[.int .i64 0, .int .i64 0, .int .i64 0, .slice none 0 0] 24 (0, 0))) ∧ Aside0 (Below w.heap.size w w') ∧ Aside0 (NB ≤ w'.heap.size))
      case atStart => exact ⟨0, rfl, ⟨by omega, by omega⟩, ⟨four_S HSO.out BKg8.out (by decide) _ _ _ _⟩, ⟨four_S HSN.out BKg8.out (by decide) _ _ _ _⟩, ⟨four_far BKg7.out NE.out.2 _ _ _ _⟩, ⟨four_put BKg8.out _ _ _ _⟩, ⟨four_far BKg6.out NE.out.1 _ _ _ _⟩, ⟨four_below HB8.out GE8.out _ _ _ _⟩, ⟨by simpa [World.setCell] using HNB.out⟩⟩
      case round =>
        clear BKg6 BKg7 BKg8 HSO HSN HNB HB7 HB8
        obtain ⟨p, rfl, HPI, HSO, HSN, BKg7, BKg8, BKg6, HB, HNB⟩ := hrel
        cases gk with
        | zero =>
          have hge : decide (p < (l0_3.length : Int)) = false := by have := HPI.out; simp; omega
          have hpn : p.toNat = ps.length := by have := HPI.out; have := HP.out.2.1; omega
          rw [hpn, nx_last] at HSN
          have k0 : wr.cell? ⟨g8, 0, none⟩ = some (.int .i64 (ch : Int)) := (blk_cell BKg8.out 0).trans rfl
          have k1 : wr.cell? ⟨g8, 1, none⟩ = some (.int .i64 (cw : Int)) := (blk_cell BKg8.out 1).trans rfl
          have k2 : wr.cell? ⟨g8, 2, none⟩ = some (.int .i64 a0_2) := (blk_cell BKg8.out 2).trans rfl
          have k3 : wr.cell? ⟨g8, 3, none⟩ = some (.slice (some ⟨gN, 0, none⟩) l0_3.length cN) := (blk_cell BKg8.out 3).trans rfl
          have z0 : wr.cell? ⟨g7, 0, none⟩ = some (.int .i64 (cw : Int)) := (blk_cell BKg7.out 0).trans rfl
          have z1 : wr.cell? ⟨g7, 1, none⟩ = some (.int .i64 (ch : Int)) := (blk_cell BKg7.out 1).trans rfl
          have z2 : wr.cell? ⟨g7, 2, none⟩ = some (.int .i64 a0_2) := (blk_cell BKg7.out 2).trans rfl
          have z3 : wr.cell? ⟨g7, 3, none⟩ = some (.slice (some ⟨gO, 0, none⟩) l0_3.length cO) := (blk_cell BKg7.out 3).trans rfl
          have f0 := blk_frozen BKg7.out 0
          have f1 := blk_frozen BKg7.out 1
          have f2 := blk_frozen BKg7.out 2
          have f3 := blk_frozen BKg7.out 3
          have hw : Aside0 (wrap64 (i + 1) = i + 1) := ⟨by have := HI.out; have := HK.out; unfold wrap64; omega⟩
          go_wp2
          go_roundg kq1
          case measure => omega
          case rel => exact ⟨i + 1, ch, cw, ps.map (rot1 cw ch), gN, cN, congrArg _ hw.out, ⟨by have := HI.out; omega, by have := HI.out; omega⟩, ⟨HP.out.1.turn, by rw [List.length_map]; exact HP.out.2.1, HP.out.2.2⟩, ⟨four_S (Kd.S_lower HSN.out HWN.out) BKg7.out (by decide) _ _ _ _⟩, ⟨four_put BKg7.out _ _ _ _⟩, ⟨four_far BKg6.out NE67.out _ _ _ _⟩, ⟨four_below HB.out GE7.out _ _ _ _⟩⟩
        | succ kq2 =>
          have p0 : 0 ≤ p := by have := HPI.out; omega
          have p1 : p < (l0_3.length : Int) := by have := HPI.out; omega
          have hpl : p.toNat < ps.length := by have := HP.out.2.1; omega
          have hlp : ps[p.toNat]? = some ps[p.toNat] := List.getElem?_eq_getElem hpl
          have hln : ps[p.toNat].length = cw * ch := HP.out.1.2.2.2.2.2 _ (List.getElem_mem hpl)
          generalize ps[p.toNat] = lp at hlp hln
          have HLP := Aside0.mk (And.intro hlp hln)
          obtain ⟨gp, cp, okp, kp, hokp, _, _, _, _, _, hRp, _, _⟩ := S_row HSO.out p p0 p1 lp hlp (by have := hNpos.out; omega)
          have HRP := Aside0.mk (Kd.R_mono (ok' := fun k => True ∧ k < NB) hRp (fun k hk => (hokp k hk).1))
          clear hRp hokp hlp hln hpl
          have pd : decide (p < (l0_3.length : Int)) = true := decide_eq_true p1
          have pd0 : decide (0 ≤ p) = true := decide_eq_true p0
          replace p0 := eq_true p0
          replace p1 := eq_true p1
          have k81 : wr.cell? ⟨g8, 1, none⟩ = some (.int .i64 (cw : Int)) := (blk_cell BKg8.out 1).trans rfl
          go_wp2
          clear k81 kp
          go_loopg [41] cw (fun kq v41 w' => ∃ (y : Int), v41 = .int .i64 y ∧ Aside0 (0 ≤ y ∧ y + kq = cw) ∧ Aside0 (Kd.S (Kd.slice 3 (Kd.int .i64)) 39 w' w.heap.size (fun k => True ∧ k < NB) (.slice (some ⟨gO, 0, none⟩) l0_3.length cO) ps) ∧ Aside0 ((Kd.int .i64).R 3 w' w.heap.size (fun k => True ∧ k < NB) (.slice (some ⟨gp, 0, none⟩) lp.length cp) lp) ∧ Aside0 (Kd.S (Kd.slice 3 (Kd.int .i64)) 39 w' NB (fun _ => True) (.slice (some ⟨gN, 0, none⟩) l0_3.length cN) (nx cw ch ps p.toNat (y.toNat * ch))) ∧ Aside0 (w'.heap[g7]? = some (.cells #[.int .i64 (cw : Int), .int .i64 (ch : Int), .int .i64 a0_2, .slice (some ⟨gO, 0, none⟩) l0_3.length cO] 24 (0, 0))) ∧ Aside0 (w'.heap[g8]? = some (.cells #[.int .i64 (ch : Int), .int .i64 (cw : Int), .int .i64 a0_2, .slice (some ⟨gN, 0, none⟩) l0_3.length cN] 24 (0, 0))) ∧ Aside0 (w'.heap[g6]? = some (.cells #[.int .i64 0, .int .i64 0, .int .i64 0, .slice none 0 0] 24 (0, 0))) ∧ Aside0 (Below w.heap.size w w') ∧ Aside0 (NB ≤ w'.heap.size))
          case atStart => exact ⟨0, rfl, ⟨by omega, by omega⟩, HSO, HRP, ⟨by simpa using HSN.out⟩, BKg7, BKg8, BKg6, HB, HNB⟩
          case round =>
            clear BKg6 BKg7 BKg8 HSO HSN HNB HB HRP
            obtain ⟨y, rfl, HY, HSO, HRP, HSN, BKg7, BKg8, BKg6, HB, HNB⟩ := hrel
            cases gk with
            | zero =>
              have hge : decide (y < (cw : Int)) = false := by have := HY.out; simp; omega
              have hy : y.toNat = cw := by have := HY.out; omega
              rw [hy, nx_next] at HSN
              have hw : Aside0 (wrap64 (p + 1) = p + 1 ∧ (p + 1).toNat = p.toNat + 1) := ⟨by have := HPI.out; have := HK.out; unfold wrap64; omega, by have := HPI.out; omega⟩
              go_wp2
              go_roundg kq2
              case measure => omega
              case rel => exact ⟨p + 1, congrArg _ hw.out.1, ⟨by have := HPI.out; omega, by have := HPI.out; omega⟩, HSO, ⟨by rw [hw.out.2]; exact HSN.out⟩, BKg7, BKg8, BKg6, HB, HNB⟩
            | succ kq3 =>
              have yd : decide (y < (cw : Int)) = true := by have := HY.out; simp; omega
              have k80 : wr.cell? ⟨g8, 0, none⟩ = some (.int .i64 (ch : Int)) := (blk_cell BKg8.out 0).trans rfl
              go_wp2
              clear k80
              go_loopg [46] ch (fun kq v46 w' => ∃ (x : Int), v46 = .int .i64 x ∧ Aside0 (0 ≤ x ∧ x + kq = ch) ∧ Aside0 (Kd.S (Kd.slice 3 (Kd.int .i64)) 39 w' w.heap.size (fun k => True ∧ k < NB) (.slice (some ⟨gO, 0, none⟩) l0_3.length cO) ps) ∧ Aside0 ((Kd.int .i64).R 3 w' w.heap.size (fun k => True ∧ k < NB) (.slice (some ⟨gp, 0, none⟩) lp.length cp) lp) ∧ Aside0 (Kd.S (Kd.slice 3 (Kd.int .i64)) 39 w' NB (fun _ => True) (.slice (some ⟨gN, 0, none⟩) l0_3.length cN) (nx cw ch ps p.toNat (y.toNat * ch + x.toNat))) ∧ Aside0 (w'.heap[g7]? = some (.cells #[.int .i64 (cw : Int), .int .i64 (ch : Int), .int .i64 a0_2, .slice (some ⟨gO, 0, none⟩) l0_3.length cO] 24 (0, 0))) ∧ Aside0 (w'.heap[g8]? = some (.cells #[.int .i64 (ch : Int), .int .i64 (cw : Int), .int .i64 a0_2, .slice (some ⟨gN, 0, none⟩) l0_3.length cN] 24 (0, 0))) ∧ Aside0 (w'.heap[g6]? = some (.cells #[.int .i64 0, .int .i64 0, .int .i64 0, .slice none 0 0] 24 (0, 0))) ∧ Aside0 (Below w.heap.size w w') ∧ Aside0 (NB ≤ w'.heap.size))
              case atStart => exact ⟨0, rfl, ⟨by omega, by omega⟩, HSO, HRP, ⟨by simpa using HSN.out⟩, BKg7, BKg8, BKg6, HB, HNB⟩
              case round =>
                clear BKg6 BKg7 BKg8 HSO HSN HNB HB HRP
                obtain ⟨x, rfl, HX, HSO, HRP, HSN, BKg7, BKg8, BKg6, HB, HNB⟩ := hrel
                cases gk with
                | zero =>
                  have hge : decide (x < (ch : Int)) = false := by have := HX.out; simp; omega
                  have hx : x.toNat = ch := by have := HX.out; omega
                  rw [hx, show y.toNat * ch + ch = (y.toNat + 1) * ch by rw [Nat.add_mul, Nat.one_mul]] at HSN
                  have hw : Aside0 (wrap64 (y + 1) = y + 1 ∧ (y + 1).toNat = y.toNat + 1) := ⟨by have := HY.out; have := HPB.out; unfold wrap64; omega, by have := HY.out; omega⟩
                  go_wp2
                  go_roundg kq3
                  case measure => omega
                  case rel => exact ⟨y + 1, congrArg _ hw.out.1, ⟨by have := HY.out; omega, by have := HY.out; omega⟩, HSO, HRP, ⟨by rw [hw.out.2]; exact HSN.out⟩, BKg7, BKg8, BKg6, HB, HNB⟩
                | succ kq4 =>
                      have hx1 : x < (ch : Int) := by have := HX.out; omega
                      have hy1 : y < (cw : Int) := by have := HY.out; omega
                      have xd : decide (x < (ch : Int)) = true := decide_eq_true hx1
                      have hch : (ch : Int) ≤ 1000 := by have := HPB.out; omega
                      have hcw : (cw : Int) ≤ 1000 := by have := HPB.out; omega
                      have e1 : y * (ch : Int) = ((y.toNat * ch : Nat) : Int) := by rw [Int.natCast_mul]; congr 1; have := HY.out; omega
                      have b1 : y.toNat * ch + ch ≤ cw * ch := by rw [← Nat.succ_mul]; exact Nat.mul_le_mul_right _ (by have := HY.out; omega)
                      have e2 : ((ch : Int) - 1 - x) * (cw : Int) = (((ch - 1 - x.toNat) * cw : Nat) : Int) := by rw [Int.natCast_mul]; congr 1; have := HX.out; omega
                      have b2 : (ch - 1 - x.toNat) * cw + cw ≤ cw * ch := by rw [← Nat.succ_mul, Nat.mul_comm cw ch]; exact Nat.mul_le_mul_right _ (by have := HX.out; omega)
                      have hNl := hNpos.out.2
                      have ht : Aside0 (y.toNat * ch + x.toNat < cw * ch ∧ (y.toNat * ch + x.toNat) % ch = x.toNat ∧ (y.toNat * ch + x.toNat) / ch = y.toNat) := ⟨by have := HX.out; omega, by rw [Nat.mul_comm, Nat.mul_add_mod, Nat.mod_eq_of_lt (by have := HX.out; omega)], by rw [Nat.mul_comm, Nat.mul_add_div (by have := HX.out; omega), Nat.div_eq_of_lt (by have := HX.out; omega), Nat.add_zero]⟩
                      obtain ⟨q1, hq1, v1⟩ : ∃ q, wrap64 (y * (ch : Int)) = q ∧ q = ((y.toNat * ch : Nat) : Int) := ⟨_, rfl, by rw [e1]; unfold wrap64; omega⟩
                      obtain ⟨q2, hq2, v2⟩ : ∃ q, wrap64 (q1 + x) = q ∧ q = ((y.toNat * ch + x.toNat : Nat) : Int) := ⟨_, rfl, by rw [v1]; have := HX.out; unfold wrap64; omega⟩
                      obtain ⟨q3, hq3, v3⟩ : ∃ q, wrap64 ((ch : Int) - 1) = q ∧ q = (ch : Int) - 1 := ⟨_, rfl, by unfold wrap64; omega⟩
                      obtain ⟨q4, hq4, v4⟩ : ∃ q, wrap64 (q3 - x) = q ∧ q = (ch : Int) - 1 - x := ⟨_, rfl, by rw [v3]; have := HX.out; unfold wrap64; omega⟩
                      obtain ⟨q5, hq5, v5⟩ : ∃ q, wrap64 (q4 * (cw : Int)) = q ∧ q = (((ch - 1 - x.toNat) * cw : Nat) : Int) := ⟨_, rfl, by rw [v4, e2]; unfold wrap64; omega⟩
                      obtain ⟨q6, hq6, v6⟩ : ∃ q, wrap64 (q5 + y) = q ∧ q = (((ch - 1 - x.toNat) * cw + y.toNat : Nat) : Int) := ⟨_, rfl, by rw [v5]; have := HY.out; unfold wrap64; omega⟩
                      have u0 : 0 ≤ q6 := by omega
                      have u1 : q6 < (lp.length : Int) := by have := HLP.out.2; have := HY.out; omega
                      have nrow := nx_row cw ch ps p.toNat (y.toNat * ch + x.toNat) lp HLP.out.1
                      have nlen := nxr_length cw ch lp (y.toNat * ch + x.toNat) (Nat.le_of_lt ht.out.1)
                      have nset := nx_set cw ch ps p.toNat (y.toNat * ch + x.toNat) lp HLP.out.1 ht.out.1 (rdOf 0 lp q6) (by rw [ht.out.2.1, ht.out.2.2]; show lp.getD q6.toNat 0 = _; rw [v6, Int.toNat_natCast])
                      obtain ⟨gq, cq, okq, kq, hokq, hqN, _, hbq, hlq, ⟨cellsq, hcq⟩, hRq, _, hback⟩ := S_row (Kd.S_drew HSN.out) p (of_eq_true p0) (of_eq_true p1) _ nrow (by rw [nlen]; exact hNpos.out.1)
                      obtain ⟨cx, fx_⟩ := Kd.R_celln 0 HRP.out q6 u0 u1
                      have w0_ : 0 ≤ q2 := by omega
                      have w1_ : q2 < ((nxr cw ch lp (y.toNat * ch + x.toNat)).length : Int) := by rw [nlen]; have := ht.out.1; omega
                      obtain ⟨cn, fn⟩ := Kd.R_celln 0 hRq q2 w0_ w1_
                      have hp3 := Kd.R_putg hRq q2 (rdOf 0 lp q6)
                      have hS3 := hback _ _ hp3.2 hp3.1
                      rw [show q2.toNat = y.toNat * ch + x.toNat by omega, nset] at hS3
                      have HQT : Aside0 (q2.toNat = y.toNat * ch + x.toNat) := ⟨by omega⟩
                      rw [← HQT.out] at hS3
                      have HS3 := Aside0.mk hS3
                      have HCQ := Aside0.mk hcq
                      have HBQ := Aside0.mk (And.intro hbq (Nat.le_trans HWN.out hbq))
                      have u0d : decide (0 ≤ q6) = true := decide_eq_true u0
                      have u1d : decide (q6 < (lp.length : Int)) = true := decide_eq_true u1
                      have w0d : decide (0 ≤ q2) = true := decide_eq_true w0_
                      have w1d : decide (q2 < ((nxr cw ch lp (y.toNat * ch + x.toNat)).length : Int)) = true := decide_eq_true w1_
                      clear hS3 hp3 hback hRq nset nrow nlen hokq hqN hbq hlq hcq v1 v2 v3 v4 v5 v6 e1 e2 b1 b2 hNl hch hcw hx1 hy1 fx_
                      generalize rdOf 0 lp q6 = vx at *
                      generalize (nxr cw ch lp (y.toNat * ch + x.toNat)).length = LN at *
                      have hw : Aside0 (wrap64 (x + 1) = x + 1 ∧ (x + 1).toNat = x.toNat + 1) := ⟨by have := HX.out; have := HPB.out; unfold wrap64; omega, by have := HX.out; omega⟩
                      replace u0 := eq_true u0
                      replace u1 := eq_true u1
                      replace w0_ := eq_true w0_
                      replace w1_ := eq_true w1_
                      have k83 : wr.cell? ⟨g8, 3, none⟩ = some (.slice (some ⟨gN, 0, none⟩) l0_3.length cN) := (blk_cell BKg8.out 3).trans rfl
                      have k80 : wr.cell? ⟨g8, 0, none⟩ = some (.int .i64 (ch : Int)) := (blk_cell BKg8.out 0).trans rfl
                      have k71 : wr.cell? ⟨g7, 1, none⟩ = some (.int .i64 (ch : Int)) := (blk_cell BKg7.out 1).trans rfl
                      have k70 : wr.cell? ⟨g7, 0, none⟩ = some (.int .i64 (cw : Int)) := (blk_cell BKg7.out 0).trans rfl
                      go_wp2
                      refine start_ (n := 26) (S := fun w' => w'.cell? ⟨g8, 3, none⟩ = some (.slice (some ⟨gN, 0, none⟩) l0_3.length cN) ∧ w'.cell? ⟨gN, p.toNat, none⟩ = some (.slice (some ⟨gq, 0, none⟩) LN cq) ∧ w'.cell? ⟨g8, 0, none⟩ = some (.int .i64 (ch : Int)) ∧ w'.cell? ⟨g7, 1, none⟩ = some (.int .i64 (ch : Int)) ∧ w'.cell? ⟨g7, 0, none⟩ = some (.int .i64 (cw : Int)) ∧ w'.cell? ⟨gp, q6.toNat, none⟩ = some (.int .i64 vx)) (ds := [25]) #[false, false, false, false, false, false, false, false, false, false, false, false, false, false, false, false, false, false, false, false, false, false, false, false, false, false] (by kernel_rfl) rfl rfl ⟨k83, kq, k80, k71, k70, cx⟩ (fun hHeld => ?_); refine with_tabW item_turned.tab14 item_turned.bits14 (fun HT_ HW_ => ?_)
                      replace HSO := Aside0.mk (Kd.S_drew HSO.out)
                      replace HRP := Aside0.mk (Kd.R_drew HRP.out)
                      replace BKg7 := Aside0.mk (blk_drew BKg7.out)
                      replace BKg8 := Aside0.mk (blk_drew BKg8.out)
                      replace BKg6 := Aside0.mk (blk_drew BKg6.out)
                      replace HB := Aside0.mk (below_drew1 HB.out)
                      replace HNB : Aside0 (NB ≤ wr.drew.heap.size) := HNB
                      clear HSN k83 k80 k71 k70
                      replace cx : wr.drew.cell? ⟨gp, q6.toNat, none⟩ = some (.int .i64 vx) := cx
                      generalize wr.drew = wd at *
                      refine pure_ (i := 0) (N := some 49) (v := ?_) (a' := ?_) #[true, false, false, false, false, false, false, false, false, false, false, false, false, false, false, false, false, false, false, false, false, false, false, false, false, false] rfl rfl (any_of HT_.out (by kernel_rfl)) (fun _ _ _ h => h) (Or.inl ⟨by rfl, ?_⟩) ?_ ?_
                      rotate_left
                      · intro w'
                        go_simp
                        with_reducible rfl
                      rotate_left
                      · simp only [Act.put, List.setIfInBounds_toArray, List.set_cons_zero, List.set_cons_succ, i64_w, i32_w, hq1, hq2, hq3, hq4, hq5, hq6]
                        rfl
                      refine pure_ (i := 2) (N := some 51) (v := ?_) (a' := ?_) #[true, false, true, false, false, false, false, false, false, false, false, false, false, false, false, false, false, false, false, false, false, false, false, false, false, false] rfl rfl (any_of HT_.out (by kernel_rfl)) (fun _ _ _ h => h) (Or.inl ⟨by rfl, ?_⟩) ?_ ?_
                      rotate_left
                      · intro w'
                        go_simp
                        with_reducible rfl
                      rotate_left
                      · simp only [Act.put, List.setIfInBounds_toArray, List.set_cons_zero, List.set_cons_succ, i64_w, i32_w, hq1, hq2, hq3, hq4, hq5, hq6]
                        rfl
                      refine pure_ (i := 5) (N := some 54) (v := ?_) (a' := ?_) #[true, false, true, false, false, true, false, false, false, false, false, false, false, false, false, false, false, false, false, false, false, false, false, false, false, false] rfl rfl (any_of HT_.out (by kernel_rfl)) (fun _ _ _ h => h) (Or.inl ⟨by rfl, ?_⟩) ?_ ?_
                      rotate_left
                      · intro w'
                        go_simp
                        with_reducible rfl
                      rotate_left
                      · simp only [Act.put, List.setIfInBounds_toArray, List.set_cons_zero, List.set_cons_succ, i64_w, i32_w, hq1, hq2, hq3, hq4, hq5, hq6]
                        rfl
                      refine pure_ (i := 6) (N := some 55) (v := ?_) (a' := ?_) #[true, false, true, false, false, true, true, false, false, false, false, false, false, false, false, false, false, false, false, false, false, false, false, false, false, false] rfl rfl (any_of HT_.out (by kernel_rfl)) (fun _ _ _ h => h) (Or.inl ⟨by rfl, ?_⟩) ?_ ?_
                      rotate_left
                      · intro w'
                        go_simp
                        with_reducible rfl
                      rotate_left
                      · simp only [Act.put, List.setIfInBounds_toArray, List.set_cons_zero, List.set_cons_succ, i64_w, i32_w, hq1, hq2, hq3, hq4, hq5, hq6]
                        rfl
                      refine pure_ (i := 9) (N := some 58) (v := ?_) (a' := ?_) #[true, false, true, false, false, true, true, false, false, true, false, false, false, false, false, false, false, false, false, false, false, false, false, false, false, false] rfl rfl (any_of HT_.out (by kernel_rfl)) (fun _ _ _ h => h) (Or.inl ⟨by rfl, ?_⟩) ?_ ?_
                      rotate_left
                      · intro w'
                        go_simp
                        with_reducible rfl
                      rotate_left
                      · simp only [Act.put, List.setIfInBounds_toArray, List.set_cons_zero, List.set_cons_succ, i64_w, i32_w, hq1, hq2, hq3, hq4, hq5, hq6]
                        rfl
                      refine pure_ (i := 11) (N := some 60) (v := ?_) (a' := ?_) #[true, false, true, false, false, true, true, false, false, true, false, true, false, false, false, false, false, false, false, false, false, false, false, false, false, false] rfl rfl (any_of HT_.out (by kernel_rfl)) (fun _ _ _ h => h) (Or.inl ⟨by rfl, ?_⟩) ?_ ?_
                      rotate_left
                      · intro w'
                        go_simp
                        with_reducible rfl
                      rotate_left
                      · simp only [Act.put, List.setIfInBounds_toArray, List.set_cons_zero, List.set_cons_succ, i64_w, i32_w, hq1, hq2, hq3, hq4, hq5, hq6]
                        rfl
                      refine pure_ (i := 12) (N := some 61) (v := ?_) (a' := ?_) #[true, false, true, false, false, true, true, false, false, true, false, true, true, false, false, false, false, false, false, false, false, false, false, false, false, false] rfl rfl (any_of HT_.out (by kernel_rfl)) (fun _ _ _ h => h) (Or.inl ⟨by rfl, ?_⟩) ?_ ?_
                      rotate_left
                      · intro w'
                        go_simp
                        with_reducible rfl
                      rotate_left
                      · simp only [Act.put, List.setIfInBounds_toArray, List.set_cons_zero, List.set_cons_succ, i64_w, i32_w, hq1, hq2, hq3, hq4, hq5, hq6]
                        rfl
                      refine pure_ (i := 15) (N := some 64) (v := ?_) (a' := ?_) #[true, false, true, false, false, true, true, false, false, true, false, true, true, false, false, true, false, false, false, false, false, false, false, false, false, false] rfl rfl (any_of HT_.out (by kernel_rfl)) (fun _ _ _ h => h) (Or.inl ⟨by rfl, ?_⟩) ?_ ?_
                      rotate_left
                      · intro w'
                        go_simp
                        with_reducible rfl
                      rotate_left
                      · simp only [Act.put, List.setIfInBounds_toArray, List.set_cons_zero, List.set_cons_succ, i64_w, i32_w, hq1, hq2, hq3, hq4, hq5, hq6]
                        rfl
                      refine pure_ (i := 17) (N := some 66) (v := ?_) (a' := ?_) #[true, false, true, false, false, true, true, false, false, true, false, true, true, false, false, true, false, true, false, false, false, false, false, false, false, false] rfl rfl (any_of HT_.out (by kernel_rfl)) (fun _ _ _ h => h) (Or.inl ⟨by rfl, ?_⟩) ?_ ?_
                      rotate_left
                      · intro w'
                        go_simp
                        with_reducible rfl
                      rotate_left
                      · simp only [Act.put, List.setIfInBounds_toArray, List.set_cons_zero, List.set_cons_succ, i64_w, i32_w, hq1, hq2, hq3, hq4, hq5, hq6]
                        rfl
                      refine pure_ (i := 20) (N := some 69) (v := ?_) (a' := ?_) #[true, false, true, false, false, true, true, false, false, true, false, true, true, false, false, true, false, true, false, false, true, false, false, false, false, false] rfl rfl (any_of HT_.out (by kernel_rfl)) (fun _ _ _ h => h) (Or.inl ⟨by rfl, ?_⟩) ?_ ?_
                      rotate_left
                      · intro w'
                        go_simp
                        with_reducible rfl
                      rotate_left
                      · simp only [Act.put, List.setIfInBounds_toArray, List.set_cons_zero, List.set_cons_succ, i64_w, i32_w, hq1, hq2, hq3, hq4, hq5, hq6]
                        rfl
                      refine take_ (i := 1) (N := some 50) (v := ?_) (a' := ?_) #[true, true, true, false, false, true, true, false, false, true, false, true, true, false, false, true, false, true, false, false, true, false, false, false, false, false] rfl rfl (take_ofW HT_.out HW_.out (by kernel_rfl)) (fun _ _ _ h => h) (Or.inl ⟨by rfl, ?_⟩) hHeld ?_ ?_
                      rotate_left
                      · rintro w' ⟨s0, s1, s2, s3, s4, s5⟩
                        go_simp
                        with_reducible rfl
                      rotate_left
                      · simp only [Act.put, List.setIfInBounds_toArray, List.set_cons_zero, List.set_cons_succ, i64_w, i32_w, hq1, hq2, hq3, hq4, hq5, hq6]
                        rfl
                      refine pure_ (i := 3) (N := some 52) (v := ?_) (a' := ?_) #[true, true, true, true, false, true, true, false, false, true, false, true, true, false, false, true, false, true, false, false, true, false, false, false, false, false] rfl rfl (any_of HT_.out (by kernel_rfl)) (fun _ _ _ h => h) (Or.inl ⟨by rfl, ?_⟩) ?_ ?_
                      rotate_left
                      · intro w'
                        go_simp
                        with_reducible rfl
                      rotate_left
                      · simp only [Act.put, List.setIfInBounds_toArray, List.set_cons_zero, List.set_cons_succ, i64_w, i32_w, hq1, hq2, hq3, hq4, hq5, hq6]
                        rfl
                      refine take_ (i := 4) (N := some 53) (v := ?_) (a' := ?_) #[true, true, true, true, true, true, true, false, false, true, false, true, true, false, false, true, false, true, false, false, true, false, false, false, false, false] rfl rfl (take_ofW HT_.out HW_.out (by kernel_rfl)) (fun _ _ _ h => h) (Or.inl ⟨by rfl, ?_⟩) hHeld ?_ ?_
                      rotate_left
                      · rintro w' ⟨s0, s1, s2, s3, s4, s5⟩
                        go_simp
                        with_reducible rfl
                      rotate_left
                      · simp only [Act.put, List.setIfInBounds_toArray, List.set_cons_zero, List.set_cons_succ, i64_w, i32_w, hq1, hq2, hq3, hq4, hq5, hq6]
                        rfl
                      refine take_ (i := 7) (N := some 56) (v := ?_) (a' := ?_) #[true, true, true, true, true, true, true, true, false, true, false, true, true, false, false, true, false, true, false, false, true, false, false, false, false, false] rfl rfl (take_ofW HT_.out HW_.out (by kernel_rfl)) (fun _ _ _ h => h) (Or.inl ⟨by rfl, ?_⟩) hHeld ?_ ?_
                      rotate_left
                      · rintro w' ⟨s0, s1, s2, s3, s4, s5⟩
                        go_simp
                        with_reducible rfl
                      rotate_left
                      · simp only [Act.put, List.setIfInBounds_toArray, List.set_cons_zero, List.set_cons_succ, i64_w, i32_w, hq1, hq2, hq3, hq4, hq5, hq6]
                        rfl
                      refine pure_ (i := 8) (N := some 57) (v := ?_) (a' := ?_) #[true, true, true, true, true, true, true, true, true, true, false, true, true, false, false, true, false, true, false, false, true, false, false, false, false, false] rfl rfl (any_of HT_.out (by kernel_rfl)) (fun _ _ _ h => h) (Or.inl ⟨by rfl, ?_⟩) ?_ ?_
                      rotate_left
                      · intro w'
                        go_simp
                        with_reducible rfl
                      rotate_left
                      · simp only [Act.put, List.setIfInBounds_toArray, List.set_cons_zero, List.set_cons_succ, i64_w, i32_w, hq1, hq2, hq3, hq4, hq5, hq6]
                        rfl
                      refine pure_ (i := 10) (N := some 59) (v := ?_) (a' := ?_) #[true, true, true, true, true, true, true, true, true, true, true, true, true, false, false, true, false, true, false, false, true, false, false, false, false, false] rfl rfl (any_of HT_.out (by kernel_rfl)) (fun _ _ _ h => h) (Or.inl ⟨by rfl, ?_⟩) ?_ ?_
                      rotate_left
                      · intro w'
                        go_simp
                        with_reducible rfl
                      rotate_left
                      · simp only [Act.put, List.setIfInBounds_toArray, List.set_cons_zero, List.set_cons_succ, i64_w, i32_w, hq1, hq2, hq3, hq4, hq5, hq6]
                        rfl
                      refine take_ (i := 13) (N := some 62) (v := ?_) (a' := ?_) #[true, true, true, true, true, true, true, true, true, true, true, true, true, true, false, true, false, true, false, false, true, false, false, false, false, false] rfl rfl (take_ofW HT_.out HW_.out (by kernel_rfl)) (fun _ _ _ h => h) (Or.inl ⟨by rfl, ?_⟩) hHeld ?_ ?_
                      rotate_left
                      · rintro w' ⟨s0, s1, s2, s3, s4, s5⟩
                        go_simp
                        with_reducible rfl
                      rotate_left
                      · simp only [Act.put, List.setIfInBounds_toArray, List.set_cons_zero, List.set_cons_succ, i64_w, i32_w, hq1, hq2, hq3, hq4, hq5, hq6]
                        rfl
                      refine pure_ (i := 14) (N := some 63) (v := ?_) (a' := ?_) #[true, true, true, true, true, true, true, true, true, true, true, true, true, true, true, true, false, true, false, false, true, false, false, false, false, false] rfl rfl (any_of HT_.out (by kernel_rfl)) (fun _ _ _ h => h) (Or.inl ⟨by rfl, ?_⟩) ?_ ?_
                      rotate_left
                      · intro w'
                        go_simp
                        with_reducible rfl
                      rotate_left
                      · simp only [Act.put, List.setIfInBounds_toArray, List.set_cons_zero, List.set_cons_succ, i64_w, i32_w, hq1, hq2, hq3, hq4, hq5, hq6]
                        rfl
                      refine pure_ (i := 16) (N := some 65) (v := ?_) (a' := ?_) #[true, true, true, true, true, true, true, true, true, true, true, true, true, true, true, true, true, true, false, false, true, false, false, false, false, false] rfl rfl (any_of HT_.out (by kernel_rfl)) (fun _ _ _ h => h) (Or.inl ⟨by rfl, ?_⟩) ?_ ?_
                      rotate_left
                      · intro w'
                        go_simp
                        with_reducible rfl
                      rotate_left
                      · simp only [Act.put, List.setIfInBounds_toArray, List.set_cons_zero, List.set_cons_succ, i64_w, i32_w, hq1, hq2, hq3, hq4, hq5, hq6]
                        rfl
                      refine take_ (i := 18) (N := some 67) (v := ?_) (a' := ?_) #[true, true, true, true, true, true, true, true, true, true, true, true, true, true, true, true, true, true, true, false, true, false, false, false, false, false] rfl rfl (take_ofW HT_.out HW_.out (by kernel_rfl)) (fun _ _ _ h => h) (Or.inl ⟨by rfl, ?_⟩) hHeld ?_ ?_
                      rotate_left
                      · rintro w' ⟨s0, s1, s2, s3, s4, s5⟩
                        go_simp
                        with_reducible rfl
                      rotate_left
                      · simp only [Act.put, List.setIfInBounds_toArray, List.set_cons_zero, List.set_cons_succ, i64_w, i32_w, hq1, hq2, hq3, hq4, hq5, hq6]
                        rfl
                      refine pure_ (i := 19) (N := some 68) (v := ?_) (a' := ?_) #[true, true, true, true, true, true, true, true, true, true, true, true, true, true, true, true, true, true, true, true, true, false, false, false, false, false] rfl rfl (any_of HT_.out (by kernel_rfl)) (fun _ _ _ h => h) (Or.inl ⟨by rfl, ?_⟩) ?_ ?_
                      rotate_left
                      · intro w'
                        go_simp
                        with_reducible rfl
                      rotate_left
                      · simp only [Act.put, List.setIfInBounds_toArray, List.set_cons_zero, List.set_cons_succ, i64_w, i32_w, hq1, hq2, hq3, hq4, hq5, hq6]
                        rfl
                      refine pure_ (i := 21) (N := some 70) (v := ?_) (a' := ?_) #[true, true, true, true, true, true, true, true, true, true, true, true, true, true, true, true, true, true, true, true, true, true, false, false, false, false] rfl rfl (any_of HT_.out (by kernel_rfl)) (fun _ _ _ h => h) (Or.inl ⟨by rfl, ?_⟩) ?_ ?_
                      rotate_left
                      · intro w'
                        go_simp
                        with_reducible rfl
                      rotate_left
                      · simp only [Act.put, List.setIfInBounds_toArray, List.set_cons_zero, List.set_cons_succ, i64_w, i32_w, hq1, hq2, hq3, hq4, hq5, hq6]
                        rfl
                      refine pure_ (i := 22) (N := some 71) (v := ?_) (a' := ?_) #[true, true, true, true, true, true, true, true, true, true, true, true, true, true, true, true, true, true, true, true, true, true, true, false, false, false] rfl rfl (any_of HT_.out (by kernel_rfl)) (fun _ _ _ h => h) (Or.inl ⟨by rfl, ?_⟩) ?_ ?_
                      rotate_left
                      · intro w'
                        go_simp
                        with_reducible rfl
                      rotate_left
                      · simp only [Act.put, List.setIfInBounds_toArray, List.set_cons_zero, List.set_cons_succ, i64_w, i32_w, hq1, hq2, hq3, hq4, hq5, hq6]
                        rfl
                      refine take_ (i := 23) (N := some 72) (v := ?_) (a' := ?_) #[true, true, true, true, true, true, true, true, true, true, true, true, true, true, true, true, true, true, true, true, true, true, true, true, false, false] rfl rfl (take_ofW HT_.out HW_.out (by kernel_rfl)) (fun _ _ _ h => h) (Or.inl ⟨by rfl, ?_⟩) hHeld ?_ ?_
                      rotate_left
                      · rintro w' ⟨s0, s1, s2, s3, s4, s5⟩
                        go_simp
                        with_reducible rfl
                      rotate_left
                      · simp only [Act.put, List.setIfInBounds_toArray, List.set_cons_zero, List.set_cons_succ, i64_w, i32_w, hq1, hq2, hq3, hq4, hq5, hq6]
                        rfl
                      refine pure_ (i := 24) (N := some 73) (v := ?_) (a' := ?_) #[true, true, true, true, true, true, true, true, true, true, true, true, true, true, true, true, true, true, true, true, true, true, true, true, true, false] rfl rfl (any_of HT_.out (by kernel_rfl)) (fun _ _ _ h => h) (Or.inl ⟨by rfl, ?_⟩) ?_ ?_
                      rotate_left
                      · intro w'
                        go_simp
                        with_reducible rfl
                      rotate_left
                      · simp only [Act.put, List.setIfInBounds_toArray, List.set_cons_zero, List.set_cons_succ, i64_w, i32_w, hq1, hq2, hq3, hq4, hq5, hq6]
                        rfl
                      refine last_ (i := 25) (N := none) #[true, true, true, true, true, true, true, true, true, true, true, true, true, true, true, true, true, true, true, true, true, true, true, true, true, true] rfl rfl (one_of HT_.out (by kernel_rfl)) (by decide) (fun K hK => ?_)
                      refine skip_ (w1 := ?_) (by rfl) rfl ?_ ?_
                      rotate_left
                      · go_simp
                        rfl
                      refine hK.out _ _ ?_
                      clear hK K
                      refine done_ (done_of HT_.out (by kernel_rfl)) ?_
                      go_wp2
                      go_roundg kq4
                      case measure => omega
                      case rel => exact ⟨x + 1, congrArg _ hw.out.1, ⟨by have := HX.out; omega, by have := HX.out; omega⟩, ⟨Kd.S_far HSO.out (fun k hk he => by have he : k = gq := he; have := HBQ.out.1; have := hk.2; omega) _⟩, ⟨Kd.R_step HRP.out (fun k hk _ => Below.heap_setCell wd _ _ k (fun he => by have he : k = gq := he; have := HBQ.out.1; have := hk.2; omega))⟩, ⟨by rw [hw.out.2, ← Nat.add_assoc, ← HQT.out]; exact HS3.out⟩, ⟨blk_far BKg7.out (ne_types BKg7.out HCQ.out (by decide)) _⟩, ⟨blk_far BKg8.out (ne_types BKg8.out HCQ.out (by decide)) _⟩, ⟨blk_far BKg6.out (ne_types BKg6.out HCQ.out (by decide)) _⟩, ⟨below_set HB.out HBQ.out.2⟩, ⟨by simpa [World.setCell] using HNB.out⟩⟩
end Go.Proofs.YtphkionjjhhhlaaGreat.Q
end
section
namespace Go.Proofs.YtphkionjjhhhlaaGreat.Q
open Go.RowKit Go.Proofs.YtphkionjjhhhlaaGreatW.PrintWords Go.Proofs.YtphkionjjhhhlaaGreatW.PrintLast Go.Proofs.YtphkionjjhhhlaaGreatW.PrintMore
theorem copy_ints (l : List Int) (hl : l.length ≤ 10000000) : ∀ (n j : Nat), j + n = l.length → Ev fun k => dioramaref00_CopyInts.l0 k l (l.take j) j = some l := by
  intro n
  induction n with
  | zero =>
    intro j hj
    refine Ev.const (fun k => ?_)
    rw [dioramaref00_CopyInts.l0, if_neg (by omega), List.take_of_length_le (by omega)]
  | succ n ih =>
    intro j hj
    have hjl : j < l.length := by omega
    have hx : l[j]? = some l[j] := List.getElem?_eq_getElem hjl
    refine Ev.step (fun k => ?_) (ih (j + 1) (by omega))
    rw [dioramaref00_CopyInts.l0, if_pos (by omega), if_pos (by omega), if_pos (by rw [List.length_take]; omega), w64_succ j (by omega), rd_at l j _ hx, List.take_add_one, hx]
    rfl
theorem copy_row (l : List Int) (hl : l.length ≤ 10000000) : Ev fun k => dioramaref00_CopyInts.f k l = some l := by
  obtain ⟨K, hK⟩ := copy_ints l hl l.length 0 (by omega)
  refine ⟨K, fun k hk => ?_⟩
  show dioramaref00_CopyInts.f k l = some l
  unfold dioramaref00_CopyInts.f
  rw [if_pos (by omega)]
  exact hK k hk
theorem okPic.len {s : Nat × Nat × List (List Int)} (h : okPic s) : ∀ r ∈ s.2.2, r.length ≤ 10000000 := fun r hr => by
  have h1 := h.2.2.2.2.2 r hr
  have h2 := Nat.mul_le_mul h.2.1 h.2.2.2.1
  omega
end Go.Proofs.YtphkionjjhhhlaaGreat.Q
end
section
namespace Go.Proofs.YtphkionjjhhhlaaGreat.Q
open Go.RowKit Go.Proofs.YtphkionjjhhhlaaGreatW.PrintWords Go.Proofs.YtphkionjjhhhlaaGreatW.PrintLast Go.Proofs.YtphkionjjhhhlaaGreatW.PrintMore
theorem hasInt_l0 (o : List Int) (ho : o.length < 1000000) (x : Int) : ∀ (n j : Nat), j + n = o.length → ∃ h : Int, (Ev fun k => dioramaref00_HasInt.l0 k o x j = some h) ∧ (h ≥ 0 ↔ x ∈ o.drop j) := by
  intro n
  induction n with
  | zero =>
    intro j hj
    refine ⟨-1, Ev.const fun k => ?_, ?_⟩
    · rw [dioramaref00_HasInt.l0, if_neg (by omega)]
    · rw [List.drop_eq_nil_of_le (by omega)]
      simp
  | succ n ih =>
    intro j hj
    have hjl : j < o.length := by omega
    have hx : o[j]? = some o[j] := List.getElem?_eq_getElem hjl
    by_cases he : o[j] = x
    · refine ⟨j, Ev.const fun k => ?_, ?_⟩
      · rw [dioramaref00_HasInt.l0, if_pos (by omega), if_pos (by omega), rd_at o j _ hx, if_pos he]
      · rw [drop_at o j _ hx, he]
        simp
    · obtain ⟨h, h1, h2⟩ := ih (j + 1) (by omega)
      refine ⟨h, Ev.step (fun k => ?_) h1, ?_⟩
      · rw [dioramaref00_HasInt.l0, if_pos (by omega), if_pos (by omega), rd_at o j _ hx, if_neg he, w64_succ j (by omega)]
      · rw [h2, drop_at o j _ hx, List.mem_cons]
        exact ⟨.inr, fun h3 => h3.resolve_left fun e => he e.symm⟩
theorem hasInt_is (o : List Int) (ho : o.length < 1000000) (x : Int) : ∃ h : Int, (Ev fun k => dioramaref00_HasInt.f k o x = some h) ∧ (h ≥ 0 ↔ x ∈ o) := by
  obtain ⟨h, h1, h2⟩ := hasInt_l0 o ho x o.length 0 (by omega)
  rw [List.drop_zero] at h2
  exact ⟨h, h1, h2⟩
def cntO (N : Nat) (o : List Int) : Nat := (List.range N).countP fun m : Nat => decide ((m : Int) ∈ o)
theorem cntO_le (N : Nat) (o : List Int) : cntO N o ≤ N := Nat.le_trans List.countP_le_length (by simp)
theorem cntO_snoc (N : Nat) (o : List Int) (k : Int) (h0 : 0 ≤ k) (h1 : k < (N : Int)) (hk : k ∉ o) (h : o.length ≤ cntO N o) : (o ++ [k]).length ≤ cntO N (o ++ [k]) := by
  have : cntO N o < cntO N (o ++ [k]) := by
    refine countP_lt _ k.toNat (fun y _ hy => ?_) (List.mem_range.2 (by omega)) ?_ ?_
    · exact decide_eq_true (List.mem_append_left _ (of_decide_eq_true hy))
    · exact decide_eq_true (by rw [Int.toNat_of_nonneg h0]; simp)
    · exact decide_eq_false (by rw [Int.toNat_of_nonneg h0]; exact hk)
  rw [List.length_append, List.length_singleton]
  omega
open Classical in
noncomputable def rank (N : Nat) (ch : Int → List Int) (k : Int) : Nat := (List.range N).countP fun m : Nat => decide (Rch ch k (m : Int))
theorem rank_le (N : Nat) (ch : Int → List Int) (k : Int) : rank N ch k ≤ N := by
  unfold rank
  exact Nat.le_trans List.countP_le_length (by simp)
open Classical in
theorem rank_lt (N : Nat) (ch : Int → List Int) (k c : Int) (hc : c ∈ ch k) (h0 : 0 ≤ c) (h1 : c < (N : Int)) (hac : ¬ Rch ch c c) : rank N ch c < rank N ch k := by
  unfold rank
  refine countP_lt _ c.toNat (fun y _ hy => ?_) (List.mem_range.2 (by omega)) ?_ ?_
  · exact decide_eq_true (.more hc (of_decide_eq_true hy))
  · exact decide_eq_true (by rw [Int.toNat_of_nonneg h0]; exact .one hc)
  · exact decide_eq_false (by rw [Int.toNat_of_nonneg h0]; exact hac)
structure Vis (l : List S68) (k : Int) (f : Nat) (o r : List Int) : Prop where
  here : walkO l f k o = some r
  there : Ev fun n => dioramaref15_visit.f n l k o = some r
  cnt : r.length ≤ cntO l.length r
  old : ∀ m ∈ o, m ∈ r
  new : ∀ m ∈ r, m ∈ o ∨ m = k ∨ Rch (chI l) k m
def visTail (l : List S68) (x : Int) (o : List Int) (k : Nat) : Option (List Int) :=
  (dioramaref00_HasInt.f k o x).bind fun t384 => (if t384 ≥ 0 then (some o) else ((dioramaref00_CopyInts.f k o).bind fun t385 => (if t385.length < 17592186044416 then (some (t385 ++ [x])) else (none))))
theorem visit_l0 (l : List S68) (hl : l.length < 1000000) (x : Int) (h0 : 0 ≤ x) (h1 : x < (l.length : Int)) (hf : (rd_T68 l x).f3.length < 1000000) (f : Nat)
    (hgo : ∀ c ∈ chI l x, ∀ o, o.length ≤ cntO l.length o → ∃ r, Vis l c f o r) :
    ∀ (n j : Nat), j + n = (rd_T68 l x).f3.length → ∀ o, o.length ≤ cntO l.length o → ∃ r, goO l (walkO l f) ((rd_T68 l x).f3.drop j) o = some r ∧
      (∀ R, (Ev fun k => visTail l x r k = R) → Ev fun k => dioramaref15_visit.l0 k l x o j = R) ∧ r.length ≤ cntO l.length r ∧ (∀ m ∈ o, m ∈ r) ∧ ∀ m ∈ r, m ∈ o ∨ Rch (chI l) x m := by
  intro n
  induction n with
  | zero =>
    intro j hj o ho
    refine ⟨o, ?_, fun R hR => ?_, ho, fun _ h => h, fun _ h => .inl h⟩
    · rw [List.drop_eq_nil_of_le (by omega)]
      rfl
    · refine Ev.step (fun k => ?_) hR
      rw [dioramaref15_visit.l0, if_pos h0, if_pos h1, if_neg (by omega)]
      rfl
  | succ n ih =>
    intro j hj o ho
    have hjl : j < (rd_T68 l x).f3.length := by omega
    have hx : (rd_T68 l x).f3[j]? = some (rd_T68 l x).f3[j] := List.getElem?_eq_getElem hjl
    have hc : findI l (rd_T68 l x).f3[j] ∈ chI l x := List.mem_map.2 ⟨_, List.getElem_mem hjl, rfl⟩
    obtain ⟨r1, hv⟩ := hgo _ hc o ho
    obtain ⟨r, h2, h3, h4, h5, h6⟩ := ih (j + 1) (by omega) r1 hv.cnt
    refine ⟨r, ?_, fun R hR => ?_, h4, fun m hm => h5 m (hv.old m hm), fun m hm => ?_⟩
    · rw [drop_at _ _ _ hx]
      show (walkO l f (findI l (rd_T68 l x).f3[j]) o).bind _ = _
      rw [hv.here, Option.bind_some]
      exact h2
    · refine Ev.step (g := fun k => (dioramaref15_find.f k l (rd_T68 l x).f3[j]).bind fun t380 => ((dioramaref15_visit.f k l t380 o).bind fun t381 => (dioramaref15_visit.l0 k l x t381 ((j + 1 : Nat) : Int)))) (fun k => ?_) (Ev.bind (find_is l hl _) (Ev.bind hv.there (h3 R hR)))
      rw [dioramaref15_visit.l0, if_pos h0, if_pos h1, if_pos (by omega), if_pos (by omega), rd_at _ j _ hx, w64_succ j (by omega)]
    · rcases h6 m hm with h7 | h7
      · rcases hv.new m h7 with h8 | rfl | h8
        · exact .inl h8
        · exact .inr (.one hc)
        · exact .inr (.more hc h8)
      · exact .inr h7
theorem visit_is (l : List S68) (hl : l.length < 1000) (hf : ∀ x ∈ l, x.f3.length < 1000000) (hch : ∀ k, 0 ≤ k → k < (l.length : Int) → ∀ c ∈ chI l k, 0 ≤ c ∧ c < (l.length : Int)) (hac : ∀ k, 0 ≤ k → k < (l.length : Int) → ¬ Rch (chI l) k k) :
    ∀ (f : Nat) (k : Int) (o : List Int), 0 ≤ k → k < (l.length : Int) → rank l.length (chI l) k < f → o.length ≤ cntO l.length o → ∃ r, Vis l k f o r := by
  intro f
  induction f with
  | zero => intro k o _ _ h; omega
  | succ f ih =>
    intro k o h0 h1 hr ho
    have hol : o.length < 1000 := by have := cntO_le l.length o; omega
    have hany : (o.any fun x => k == x) = true ↔ k ∈ o := by
      simp
    obtain ⟨h, hh, hh2⟩ := hasInt_is o (by omega) k
    by_cases hk : k ∈ o
    · refine ⟨o, ?_, ?_, ho, fun _ h => h, fun _ h => .inl h⟩
      · unfold walkO
        rw [if_pos (hany.2 hk)]
      · refine Ev.step (g := fun n => (dioramaref00_HasInt.f n o k).bind fun t376 => (if t376 ≥ 0 then (some o) else (dioramaref15_visit.l0 n l k o 0))) (fun n => by rw [dioramaref15_visit.f]) (Ev.bind hh ?_)
        exact ⟨0, fun n _ => if_pos (hh2.2 hk)⟩
    · have hxl : k.toNat < l.length := by omega
      have hrd : rd_T68 l k ∈ l := by
        have h2 := rdT68_at l k.toNat _ (List.getElem?_eq_getElem hxl)
        rw [Int.toNat_of_nonneg h0] at h2
        rw [h2]
        exact List.getElem_mem hxl
      obtain ⟨r, g1, g2, g3, g4, g5⟩ := visit_l0 l (by omega) k h0 h1 (hf _ hrd) f (fun c hc o ho => by
        have hcr := hch k h0 h1 c hc
        exact ih c o hcr.1 hcr.2 (by have := rank_lt l.length (chI l) k c hc hcr.1 hcr.2 (hac c hcr.1 hcr.2); omega) ho) _ 0 (Nat.zero_add _) o ho
      rw [List.drop_zero] at g1
      have hkr : k ∉ r := fun hm => by
        rcases g5 k hm with h2 | h2
        · exact hk h2
        · exact hac k h0 h1 h2
      have hrl : r.length < 1000 := by have := cntO_le l.length r; omega
      refine ⟨r ++ [k], ?_, ?_, cntO_snoc _ r k h0 h1 hkr g3, fun m hm => List.mem_append_left _ (g4 m hm), fun m hm => ?_⟩
      · unfold walkO
        rw [if_neg (fun h => hk (hany.1 h)), if_pos ⟨h0, h1⟩, g1, Option.bind_some, if_pos (by omega)]
      · refine Ev.step (g := fun n => (dioramaref00_HasInt.f n o k).bind fun t376 => (if t376 ≥ 0 then (some o) else (dioramaref15_visit.l0 n l k o 0))) (fun n => by rw [dioramaref15_visit.f]) (Ev.bind hh ?_)
        have hno : ¬ h ≥ 0 := fun h3 => hk (hh2.1 h3)
        obtain ⟨h', hh', hh2'⟩ := hasInt_is r (by omega) k
        have htail : Ev fun n => visTail l k r n = some (r ++ [k]) := by
          unfold visTail
          refine Ev.bind hh' ?_
          have hno' : ¬ h' ≥ 0 := fun h3 => hkr (hh2'.1 h3)
          refine Ev.mono (Ev.bind (g := fun _ t385 => (if t385.length < 17592186044416 then (some (t385 ++ [k])) else (none))) (copy_row r (by omega)) ⟨0, fun n _ => if_pos (by omega)⟩) fun n hn => ?_
          rw [if_neg hno']
          exact hn
        exact Ev.mono (g2 _ htail) fun n hn => by rw [if_neg hno]; exact hn
      · rcases List.mem_append.1 hm with h2 | h2
        · rcases g5 m h2 with h3 | h3
          · exact .inl h3
          · exact .inr (.inr h3)
        · exact .inr (.inl (List.mem_singleton.1 h2))
theorem goL_map (l : List S68) (i : Int) (go : Int → List Bool → Option (Bool × List Bool)) : ∀ (ids : List Int) (s : List Bool), goL l i go ids s = gL i go (ids.map (findI l)) s := by
  intro ids
  induction ids with
  | nil => intro s; rfl
  | cons id ids ih =>
    intro s
    unfold goL
    rw [List.map_cons]
    unfold gL
    split
    · rfl
    · split
      · split
        · exact ih s
        · congr 1
          funext r
          split
          · rfl
          · exact ih r.2
      · rfl
theorem walkN_is (l : List S68) (i : Int) : ∀ f, walkN l i f = wN l.length (chI l) i f := by
  intro f
  induction f with
  | zero => rfl
  | succ f ih =>
    funext k s
    unfold walkN wN
    rw [ih]
    split
    · exact goL_map l i _ _ s
    · rfl
theorem loops_is (l : List S68) (hl : l.length ≤ 1000000) (hch : ∀ k, 0 ≤ k → k < (l.length : Int) → ∀ c ∈ chI l k, 0 ≤ c ∧ c < (l.length : Int)) (i : Int) (h0 : 0 ≤ i) (h1 : i < (l.length : Int)) :
    ∃ b, item_loops.f l i = some b ∧ (b = true ↔ Rch (chI l) i i) := by
  obtain ⟨b, s', h2, h3⟩ := wN_tells l.length (chI l) hch i h0 h1
  refine ⟨b, ?_, h3⟩
  unfold item_loops.f
  rw [if_pos ⟨hl, h0, h1⟩, walkN_is, h2]
  rfl
end Go.Proofs.YtphkionjjhhhlaaGreat.Q
end
section
namespace Go.Proofs.YtphkionjjhhhlaaGreat.Q
open Go.RowKit Go.Proofs.YtphkionjjhhhlaaGreatW.PrintWords Go.Proofs.YtphkionjjhhhlaaGreatW.PrintLast Go.Proofs.YtphkionjjhhhlaaGreatW.PrintMore
def item_side.f (a0 : Int) : Option (Bool) := (item_within.f a0 1 64).bind fun t203 => (some t203)
set_option maxHeartbeats 8000000 in
set_option maxRecDepth 100000 in
theorem item_side.calls (a0 : Int) (r : Bool) (w : World) (h : item_side.f a0 = some r) :
    Calls Tryz.prog 70 #[.int .i64 a0] w fun e w' => e = .returned (.bool r) ∧ Drawn0 w w' := by
  have H : ((item_within.f a0 1 64).bind fun t203 => (some t203)) = some r := h
  clear h
  replace H := Option.bind_eq_some_iff.mp H
  obtain ⟨t203, A20, H⟩ := H
  replace H : (some t203) = some r := H
  have A2 := Aside0.mk A20
  clear A20
  obtain rfl := Option.some.inj H
  go_enter Tryz.func70, Tryz.ntmps70
  go_wp2_with (first | ((with_reducible refine gate_callee (f := 48) rfl ?_); refine goesL_ (some 4) rfl rfl Tryz.func48 (by kernel_rfl) rfl #[.int .i64 a0, .int .i64 1, .int .i64 64] rfl (by (try simp only [List.map_toArray, List.map_cons, List.map_nil]); first | done | rfl | (simp only [List.length_drop, List.length_take]; rfl)) ?_; (with_reducible refine (item_within.calls a0 1 64 t203 _ A2.out).mono ?_); rintro e w' ⟨rfl, ⟨nd, rfl⟩⟩; refine ⟨_, rfl, ?_⟩))
  go_ret
  exact ⟨by first | rfl | (simp; done) | (simp [*]; done), by repeat (first | exact Drawn0.refl _ | apply Drawn0.step)⟩
end Go.Proofs.YtphkionjjhhhlaaGreat.Q
end
section
namespace Go.Proofs.YtphkionjjhhhlaaGreat.Q
open Go.RowKit Go.Proofs.YtphkionjjhhhlaaGreatW.PrintWords Go.Proofs.YtphkionjjhhhlaaGreatW.PrintLast Go.Proofs.YtphkionjjhhhlaaGreatW.PrintMore
theorem iwithin_f (a b c : Int) : item_within.f a b c = some (btw a b c) := by
  unfold item_within.f btw
  split
  · rename_i h; simp [h]
  · rename_i h; simp [show ¬ b ≤ a from h]
theorem iwithin_is (a b c : Int) (v : Bool) (h : btw a b c = v) (w : World) : Calls Tryz.prog 48 #[.int .i64 a, .int .i64 b, .int .i64 c] w fun e w' => e = .returned (.bool v) ∧ Drawn0 w w' := h ▸ item_within.calls a b c _ w (iwithin_f a b c)
theorem iside_is (a : Int) (v : Bool) (h : btw a 1 64 = v) (w : World) : Calls Tryz.prog 70 #[.int .i64 a] w fun e w' => e = .returned (.bool v) ∧ Drawn0 w w' := h ▸ item_side.calls a _ w (by unfold item_side.f; rw [iwithin_f]; rfl)
theorem enters_109 : ∀ (args : Array Value) (W : World), (callFunc 109 args).run Tryz.prog W = .ok (.enter 109 args) W := enters_of Tryz.func109 (by kernel_rfl) rfl
theorem enters_110 : ∀ (args : Array Value) (W : World), (callFunc 110 args).run Tryz.prog W = .ok (.enter 110 args) W := enters_of Tryz.func110 (by kernel_rfl) rfl
theorem pred_109 (w : World) : PredIn Tryz.prog 109 #[] (fun _ (x : Int) v => v = .int .i64 x) (fun v => !(btw v 0 4095)) w := ⟨enters_109, fun W x v hb he => by
  subst he
  have HC := Aside0.mk (iwithin_is x 0 4095 _ rfl)
  simp only [Array.append_empty]
  go_enter Tryz.func109, Tryz.ntmps109
  go_wp2_with (refine (HC.out _).mono ?_; rintro e w' ⟨rfl, hd⟩; have HD := Aside0.mk hd; clear hd)
  go_ret
  exact ⟨rfl, HD.out.below⟩⟩
theorem pred_110 (w : World) : PredIn Tryz.prog 110 #[] (fun _ (x : Int) v => v = .int .i64 x) (fun v => !(btw v (-64) 64)) w := ⟨enters_110, fun W x v hb he => by
  subst he
  have HC := Aside0.mk (iwithin_is x (-64) 64 _ rfl)
  simp only [Array.append_empty]
  go_enter Tryz.func110, Tryz.ntmps110
  go_wp2_with (refine (HC.out _).mono ?_; rintro e w' ⟨rfl, hd⟩; have HD := Aside0.mk hd; clear hd)
  go_ret
  exact ⟨rfl, HD.out.below⟩⟩
def item_ranges.f (a0_0 : Int) (a0_1 : Int) (l0_2 : List Int) (l0_3 : List Int) (l0_4 : List Int) (a0_5 : Int) (a0_6 : Int) (a0_7 : Int) (a0_8 : Int) (l0_9 : List Int) (a0_10 : Int) (a0_11 : Bool) : Option Bool :=
  some (if (btw a0_0 1 1000 && btw a0_1 0 3 && btw a0_10 0 3) = false then false
    else if a0_1 = 1 then (l0_3.length : Int) == 1
    else if a0_1 = 2 then btw a0_7 1 64 && btw a0_8 1 64 && btw (l0_9.length : Int) 1 4 && !(l0_9.any fun v => !(btw v 0 4095)) && decide ((l0_3.length : Int) ≤ 8) && ((l0_4.length : Int) == wrap64 (2 * (l0_3.length : Int))) && !(l0_4.any fun v => !(btw v (-64) 64))
    else if a0_1 = 3 then btw a0_7 1 64 && btw a0_8 1 64 && btw a0_5 1 8 && btw a0_6 1 8 && ((l0_3.length : Int) == wrap64 (a0_5 * a0_6))
    else true)
set_option maxHeartbeats 16000000 in
set_option maxRecDepth 100000 in
theorem item_ranges.calls (a0_0 : Int) (a0_1 : Int) (A0_2 : Option Addr) (c0_2 : Nat) (l0_2 : List Int) (A0_3 : Option Addr) (c0_3 : Nat) (l0_3 : List Int) (A0_4 : Option Addr) (c0_4 : Nat) (l0_4 : List Int) (a0_5 : Int) (a0_6 : Int) (a0_7 : Int) (a0_8 : Int) (A0_9 : Option Addr) (c0_9 : Nat) (l0_9 : List Int) (a0_10 : Int) (a0_11 : Bool) (r : Bool) (w : World) (hr0_2 : Kd.C (Kd.int .u8) w A0_2 l0_2.length l0_2) (hc0_2 : l0_2.length ≤ c0_2) (hr0_3 : Kd.C (Kd.int .i64) w A0_3 l0_3.length l0_3) (hc0_3 : l0_3.length ≤ c0_3) (hr0_4 : Kd.C (Kd.int .i64) w A0_4 l0_4.length l0_4) (hc0_4 : l0_4.length ≤ c0_4) (hr0_9 : Kd.C (Kd.int .i64) w A0_9 l0_9.length l0_9) (hc0_9 : l0_9.length ≤ c0_9) (h : item_ranges.f a0_0 a0_1 l0_2 l0_3 l0_4 a0_5 a0_6 a0_7 a0_8 l0_9 a0_10 a0_11 = some r) :
    Calls Tryz.prog 53 #[.agg #[.int .i64 a0_0, .int .i64 a0_1, .slice A0_2 l0_2.length c0_2, .slice A0_3 l0_3.length c0_3, .slice A0_4 l0_4.length c0_4, .int .i64 a0_5, .int .i64 a0_6, .int .i64 a0_7, .int .i64 a0_8, .slice A0_9 l0_9.length c0_9, .int .i64 a0_10, .bool a0_11]] w fun e w' => e = .returned (.bool r) ∧ Below w.heap.size w w' := by
  have hu68 := Tryz.underlying68
  have HR4 := Aside0.mk hr0_4
  have HR9 := Aside0.mk hr0_9
  clear hr0_2 hc0_2 hr0_3 hc0_3 hr0_4 hc0_4 hr0_9 hc0_9
  injection h with h
  cases b1 : btw a0_0 1 1000 with
  | false =>
    have HC1 := Aside0.mk (iwithin_is _ _ _ _ b1)
    simp only [b1, Bool.and_true, Bool.and_false, Bool.true_and, Bool.false_and, Bool.not_true, Bool.not_false, if_true, Bool.true_eq_false, if_false, Int.reduceEq, if_pos, reduceIte] at h
    subst h
    clear b1
    go_enter Tryz.func53, Tryz.ntmps53
    go_wp2_with (first | ((with_reducible refine gate_dst (N := 1) rfl ?_); refine box_event ?hg (N := 1) ?hd (cs := #[.int .i64 a0_0, .int .i64 a0_1, .slice A0_2 l0_2.length c0_2, .slice A0_3 l0_3.length c0_3, .slice A0_4 l0_4.length c0_4, .int .i64 a0_5, .int .i64 a0_6, .int .i64 a0_7, .int .i64 a0_8, .slice A0_9 l0_9.length c0_9, .int .i64 a0_10, .bool a0_11]) (t := 68) ?hr ?_; (case hd => rfl); (case hg => rfl); (case hr => first | (go_simp; done) | (go_simp; rfl)); intro gb hg w2 hbox hb; have HB2 := Aside0.mk hb; have BK := Aside0.mk hbox; have k0 := (blk_cell hbox 0).trans rfl; have k1 := (blk_cell hbox 1).trans rfl; have k2 := (blk_cell hbox 2).trans rfl; have k3 := (blk_cell hbox 3).trans rfl; have k4 := (blk_cell hbox 4).trans rfl; have k5 := (blk_cell hbox 5).trans rfl; have k6 := (blk_cell hbox 6).trans rfl; have k7 := (blk_cell hbox 7).trans rfl; have k8 := (blk_cell hbox 8).trans rfl; have k9 := (blk_cell hbox 9).trans rfl; have k10 := (blk_cell hbox 10).trans rfl; have k11 := (blk_cell hbox 11).trans rfl; clear hb hbox hg) | (go_at_call 48; (with_reducible refine (HC1.out _).mono ?_); rintro e w' ⟨rfl, hd⟩; obtain ⟨n1, rfl⟩ := hd.out; clear hd))
    go_ret
    exact ⟨rfl, by repeat (first | exact HB2.out | apply pw_below_drewN)⟩
  | true =>
    cases b2 : btw a0_1 0 3 with
    | false =>
      have HC1 := Aside0.mk (iwithin_is _ _ _ _ b1)
      have HC2 := Aside0.mk (iwithin_is _ _ _ _ b2)
      simp only [b1, b2, Bool.and_true, Bool.and_false, Bool.true_and, Bool.false_and, Bool.not_true, Bool.not_false, if_true, Bool.true_eq_false, if_false, Int.reduceEq, if_pos, reduceIte] at h
      subst h
      clear b1 b2
      go_enter Tryz.func53, Tryz.ntmps53
      go_wp2_with (first | ((with_reducible refine gate_dst (N := 1) rfl ?_); refine box_event ?hg (N := 1) ?hd (cs := #[.int .i64 a0_0, .int .i64 a0_1, .slice A0_2 l0_2.length c0_2, .slice A0_3 l0_3.length c0_3, .slice A0_4 l0_4.length c0_4, .int .i64 a0_5, .int .i64 a0_6, .int .i64 a0_7, .int .i64 a0_8, .slice A0_9 l0_9.length c0_9, .int .i64 a0_10, .bool a0_11]) (t := 68) ?hr ?_; (case hd => rfl); (case hg => rfl); (case hr => first | (go_simp; done) | (go_simp; rfl)); intro gb hg w2 hbox hb; have HB2 := Aside0.mk hb; have BK := Aside0.mk hbox; have k0 := (blk_cell hbox 0).trans rfl; have k1 := (blk_cell hbox 1).trans rfl; have k2 := (blk_cell hbox 2).trans rfl; have k3 := (blk_cell hbox 3).trans rfl; have k4 := (blk_cell hbox 4).trans rfl; have k5 := (blk_cell hbox 5).trans rfl; have k6 := (blk_cell hbox 6).trans rfl; have k7 := (blk_cell hbox 7).trans rfl; have k8 := (blk_cell hbox 8).trans rfl; have k9 := (blk_cell hbox 9).trans rfl; have k10 := (blk_cell hbox 10).trans rfl; have k11 := (blk_cell hbox 11).trans rfl; clear hb hbox hg) | (go_at_call 48; (with_reducible refine (HC1.out _).mono ?_); rintro e w' ⟨rfl, hd⟩; obtain ⟨n1, rfl⟩ := hd.out; clear hd) | (go_at_call 48; (with_reducible refine (HC2.out _).mono ?_); rintro e w' ⟨rfl, hd⟩; obtain ⟨n2, rfl⟩ := hd.out; clear hd))
      go_ret
      exact ⟨rfl, by repeat (first | exact HB2.out | apply pw_below_drewN)⟩
    | true =>
      cases b3 : btw a0_10 0 3 with
      | false =>
        have HC1 := Aside0.mk (iwithin_is _ _ _ _ b1)
        have HC2 := Aside0.mk (iwithin_is _ _ _ _ b2)
        have HC3 := Aside0.mk (iwithin_is _ _ _ _ b3)
        simp only [b1, b2, b3, Bool.and_true, Bool.and_false, Bool.true_and, Bool.false_and, Bool.not_true, Bool.not_false, if_true, Bool.true_eq_false, if_false, Int.reduceEq, if_pos, reduceIte] at h
        subst h
        clear b1 b2 b3
        go_enter Tryz.func53, Tryz.ntmps53
        go_wp2_with (first | ((with_reducible refine gate_dst (N := 1) rfl ?_); refine box_event ?hg (N := 1) ?hd (cs := #[.int .i64 a0_0, .int .i64 a0_1, .slice A0_2 l0_2.length c0_2, .slice A0_3 l0_3.length c0_3, .slice A0_4 l0_4.length c0_4, .int .i64 a0_5, .int .i64 a0_6, .int .i64 a0_7, .int .i64 a0_8, .slice A0_9 l0_9.length c0_9, .int .i64 a0_10, .bool a0_11]) (t := 68) ?hr ?_; (case hd => rfl); (case hg => rfl); (case hr => first | (go_simp; done) | (go_simp; rfl)); intro gb hg w2 hbox hb; have HB2 := Aside0.mk hb; have BK := Aside0.mk hbox; have k0 := (blk_cell hbox 0).trans rfl; have k1 := (blk_cell hbox 1).trans rfl; have k2 := (blk_cell hbox 2).trans rfl; have k3 := (blk_cell hbox 3).trans rfl; have k4 := (blk_cell hbox 4).trans rfl; have k5 := (blk_cell hbox 5).trans rfl; have k6 := (blk_cell hbox 6).trans rfl; have k7 := (blk_cell hbox 7).trans rfl; have k8 := (blk_cell hbox 8).trans rfl; have k9 := (blk_cell hbox 9).trans rfl; have k10 := (blk_cell hbox 10).trans rfl; have k11 := (blk_cell hbox 11).trans rfl; clear hb hbox hg) | (go_at_call 48; (with_reducible refine (HC1.out _).mono ?_); rintro e w' ⟨rfl, hd⟩; obtain ⟨n1, rfl⟩ := hd.out; clear hd) | (go_at_call 48; (with_reducible refine (HC2.out _).mono ?_); rintro e w' ⟨rfl, hd⟩; obtain ⟨n2, rfl⟩ := hd.out; clear hd) | (go_at_call 48; (with_reducible refine (HC3.out _).mono ?_); rintro e w' ⟨rfl, hd⟩; obtain ⟨n3, rfl⟩ := hd.out; clear hd))
        go_ret
        exact ⟨rfl, by repeat (first | exact HB2.out | apply pw_below_drewN)⟩
      | true =>
        have HC1 := Aside0.mk (iwithin_is _ _ _ _ b1)
        have HC2 := Aside0.mk (iwithin_is _ _ _ _ b2)
        have HC3 := Aside0.mk (iwithin_is _ _ _ _ b3)
        have hk : a0_1 = 0 ∨ a0_1 = 1 ∨ a0_1 = 2 ∨ a0_1 = 3 := by simp [btw] at b2; omega
        simp only [b1, b2, b3, Bool.and_true, Bool.true_eq_false, if_false] at h
        clear b1 b2 b3
        rcases hk with rfl | rfl | rfl | rfl
        · simp only [Int.reduceEq, if_false, reduceIte] at h
          subst h
          go_enter Tryz.func53, Tryz.ntmps53
          go_wp2_with (first | ((with_reducible refine gate_dst (N := 1) rfl ?_); refine box_event ?hg (N := 1) ?hd (cs := #[.int .i64 a0_0, .int .i64 0, .slice A0_2 l0_2.length c0_2, .slice A0_3 l0_3.length c0_3, .slice A0_4 l0_4.length c0_4, .int .i64 a0_5, .int .i64 a0_6, .int .i64 a0_7, .int .i64 a0_8, .slice A0_9 l0_9.length c0_9, .int .i64 a0_10, .bool a0_11]) (t := 68) ?hr ?_; (case hd => rfl); (case hg => rfl); (case hr => first | (go_simp; done) | (go_simp; rfl)); intro gb hg w2 hbox hb; have HB2 := Aside0.mk hb; have BK := Aside0.mk hbox; have k0 := (blk_cell hbox 0).trans rfl; have k1 := (blk_cell hbox 1).trans rfl; have k2 := (blk_cell hbox 2).trans rfl; have k3 := (blk_cell hbox 3).trans rfl; have k4 := (blk_cell hbox 4).trans rfl; have k5 := (blk_cell hbox 5).trans rfl; have k6 := (blk_cell hbox 6).trans rfl; have k7 := (blk_cell hbox 7).trans rfl; have k8 := (blk_cell hbox 8).trans rfl; have k9 := (blk_cell hbox 9).trans rfl; have k10 := (blk_cell hbox 10).trans rfl; have k11 := (blk_cell hbox 11).trans rfl; clear hb hbox hg) | (go_at_call 48; (with_reducible refine (HC1.out _).mono ?_); rintro e w' ⟨rfl, hd⟩; obtain ⟨n1, rfl⟩ := hd.out; clear hd) | (go_at_call 48; (with_reducible refine (HC2.out _).mono ?_); rintro e w' ⟨rfl, hd⟩; obtain ⟨n2, rfl⟩ := hd.out; clear hd) | (go_at_call 48; (with_reducible refine (HC3.out _).mono ?_); rintro e w' ⟨rfl, hd⟩; obtain ⟨n3, rfl⟩ := hd.out; clear hd))
          go_ret
          exact ⟨rfl, by repeat (first | exact HB2.out | apply pw_below_drewN)⟩
        · simp only [Int.reduceEq, if_false, if_true, reduceIte] at h
          subst h
          go_enter Tryz.func53, Tryz.ntmps53
          go_wp2_with (first | ((with_reducible refine gate_dst (N := 1) rfl ?_); refine box_event ?hg (N := 1) ?hd (cs := #[.int .i64 a0_0, .int .i64 1, .slice A0_2 l0_2.length c0_2, .slice A0_3 l0_3.length c0_3, .slice A0_4 l0_4.length c0_4, .int .i64 a0_5, .int .i64 a0_6, .int .i64 a0_7, .int .i64 a0_8, .slice A0_9 l0_9.length c0_9, .int .i64 a0_10, .bool a0_11]) (t := 68) ?hr ?_; (case hd => rfl); (case hg => rfl); (case hr => first | (go_simp; done) | (go_simp; rfl)); intro gb hg w2 hbox hb; have HB2 := Aside0.mk hb; have BK := Aside0.mk hbox; have k0 := (blk_cell hbox 0).trans rfl; have k1 := (blk_cell hbox 1).trans rfl; have k2 := (blk_cell hbox 2).trans rfl; have k3 := (blk_cell hbox 3).trans rfl; have k4 := (blk_cell hbox 4).trans rfl; have k5 := (blk_cell hbox 5).trans rfl; have k6 := (blk_cell hbox 6).trans rfl; have k7 := (blk_cell hbox 7).trans rfl; have k8 := (blk_cell hbox 8).trans rfl; have k9 := (blk_cell hbox 9).trans rfl; have k10 := (blk_cell hbox 10).trans rfl; have k11 := (blk_cell hbox 11).trans rfl; clear hb hbox hg) | (go_at_call 48; (with_reducible refine (HC1.out _).mono ?_); rintro e w' ⟨rfl, hd⟩; obtain ⟨n1, rfl⟩ := hd.out; clear hd) | (go_at_call 48; (with_reducible refine (HC2.out _).mono ?_); rintro e w' ⟨rfl, hd⟩; obtain ⟨n2, rfl⟩ := hd.out; clear hd) | (go_at_call 48; (with_reducible refine (HC3.out _).mono ?_); rintro e w' ⟨rfl, hd⟩; obtain ⟨n3, rfl⟩ := hd.out; clear hd))
          go_ret
          exact ⟨rfl, by repeat (first | exact HB2.out | apply pw_below_drewN)⟩
        · simp only [Int.reduceEq, if_false, if_true, reduceIte] at h
          cases b4 : btw a0_7 1 64 with
          | false =>
            simp only [b4, Bool.and_true, Bool.and_false, Bool.true_and, Bool.false_and, Bool.not_true, Bool.not_false, if_true, Bool.true_eq_false, if_false, Int.reduceEq, if_pos, reduceIte] at h
            subst h
            have HC4 := Aside0.mk (iside_is _ _ b4)
            clear b4
            go_enter Tryz.func53, Tryz.ntmps53
            go_wp2_with (first | ((with_reducible refine gate_dst (N := 1) rfl ?_); refine box_event ?hg (N := 1) ?hd (cs := #[.int .i64 a0_0, .int .i64 2, .slice A0_2 l0_2.length c0_2, .slice A0_3 l0_3.length c0_3, .slice A0_4 l0_4.length c0_4, .int .i64 a0_5, .int .i64 a0_6, .int .i64 a0_7, .int .i64 a0_8, .slice A0_9 l0_9.length c0_9, .int .i64 a0_10, .bool a0_11]) (t := 68) ?hr ?_; (case hd => rfl); (case hg => rfl); (case hr => first | (go_simp; done) | (go_simp; rfl)); intro gb hg w2 hbox hb; have HB2 := Aside0.mk hb; have BK := Aside0.mk hbox; have k0 := (blk_cell hbox 0).trans rfl; have k1 := (blk_cell hbox 1).trans rfl; have k2 := (blk_cell hbox 2).trans rfl; have k3 := (blk_cell hbox 3).trans rfl; have k4 := (blk_cell hbox 4).trans rfl; have k5 := (blk_cell hbox 5).trans rfl; have k6 := (blk_cell hbox 6).trans rfl; have k7 := (blk_cell hbox 7).trans rfl; have k8 := (blk_cell hbox 8).trans rfl; have k9 := (blk_cell hbox 9).trans rfl; have k10 := (blk_cell hbox 10).trans rfl; have k11 := (blk_cell hbox 11).trans rfl; clear hb hbox hg) | (go_at_call 48; (with_reducible refine (HC1.out _).mono ?_); rintro e w' ⟨rfl, hd⟩; obtain ⟨n1, rfl⟩ := hd.out; clear hd) | (go_at_call 48; (with_reducible refine (HC2.out _).mono ?_); rintro e w' ⟨rfl, hd⟩; obtain ⟨n2, rfl⟩ := hd.out; clear hd) | (go_at_call 48; (with_reducible refine (HC3.out _).mono ?_); rintro e w' ⟨rfl, hd⟩; obtain ⟨n3, rfl⟩ := hd.out; clear hd) | (go_at_call 70; (with_reducible refine (HC4.out _).mono ?_); rintro e w' ⟨rfl, hd⟩; obtain ⟨n4, rfl⟩ := hd.out; clear hd))
            go_ret
            exact ⟨rfl, by repeat (first | exact HB2.out | apply pw_below_drewN)⟩
          | true =>
            cases b5 : btw a0_8 1 64 with
            | false =>
              simp only [b4, b5, Bool.and_true, Bool.and_false, Bool.true_and, Bool.false_and, Bool.not_true, Bool.not_false, if_true, Bool.true_eq_false, if_false, Int.reduceEq, if_pos, reduceIte] at h
              subst h
              have HC4 := Aside0.mk (iside_is _ _ b4)
              have HC5 := Aside0.mk (iside_is _ _ b5)
              clear b4 b5
              go_enter Tryz.func53, Tryz.ntmps53
              go_wp2_with (first | ((with_reducible refine gate_dst (N := 1) rfl ?_); refine box_event ?hg (N := 1) ?hd (cs := #[.int .i64 a0_0, .int .i64 2, .slice A0_2 l0_2.length c0_2, .slice A0_3 l0_3.length c0_3, .slice A0_4 l0_4.length c0_4, .int .i64 a0_5, .int .i64 a0_6, .int .i64 a0_7, .int .i64 a0_8, .slice A0_9 l0_9.length c0_9, .int .i64 a0_10, .bool a0_11]) (t := 68) ?hr ?_; (case hd => rfl); (case hg => rfl); (case hr => first | (go_simp; done) | (go_simp; rfl)); intro gb hg w2 hbox hb; have HB2 := Aside0.mk hb; have BK := Aside0.mk hbox; have k0 := (blk_cell hbox 0).trans rfl; have k1 := (blk_cell hbox 1).trans rfl; have k2 := (blk_cell hbox 2).trans rfl; have k3 := (blk_cell hbox 3).trans rfl; have k4 := (blk_cell hbox 4).trans rfl; have k5 := (blk_cell hbox 5).trans rfl; have k6 := (blk_cell hbox 6).trans rfl; have k7 := (blk_cell hbox 7).trans rfl; have k8 := (blk_cell hbox 8).trans rfl; have k9 := (blk_cell hbox 9).trans rfl; have k10 := (blk_cell hbox 10).trans rfl; have k11 := (blk_cell hbox 11).trans rfl; clear hb hbox hg) | (go_at_call 48; (with_reducible refine (HC1.out _).mono ?_); rintro e w' ⟨rfl, hd⟩; obtain ⟨n1, rfl⟩ := hd.out; clear hd) | (go_at_call 48; (with_reducible refine (HC2.out _).mono ?_); rintro e w' ⟨rfl, hd⟩; obtain ⟨n2, rfl⟩ := hd.out; clear hd) | (go_at_call 48; (with_reducible refine (HC3.out _).mono ?_); rintro e w' ⟨rfl, hd⟩; obtain ⟨n3, rfl⟩ := hd.out; clear hd) | (go_at_call 70; (with_reducible refine (HC4.out _).mono ?_); rintro e w' ⟨rfl, hd⟩; obtain ⟨n4, rfl⟩ := hd.out; clear hd) | (go_at_call 70; (with_reducible refine (HC5.out _).mono ?_); rintro e w' ⟨rfl, hd⟩; obtain ⟨n5, rfl⟩ := hd.out; clear hd))
              go_ret
              exact ⟨rfl, by repeat (first | exact HB2.out | apply pw_below_drewN)⟩
            | true =>
              cases b6 : btw (l0_9.length : Int) 1 4 with
              | false =>
                simp only [b4, b5, b6, Bool.and_true, Bool.and_false, Bool.true_and, Bool.false_and, Bool.not_true, Bool.not_false, if_true, Bool.true_eq_false, if_false, Int.reduceEq, if_pos, reduceIte] at h
                subst h
                have HC4 := Aside0.mk (iside_is _ _ b4)
                have HC5 := Aside0.mk (iside_is _ _ b5)
                have HC6 := Aside0.mk (iwithin_is _ _ _ _ b6)
                clear b4 b5 b6
                go_enter Tryz.func53, Tryz.ntmps53
                go_wp2_with (first | ((with_reducible refine gate_dst (N := 1) rfl ?_); refine box_event ?hg (N := 1) ?hd (cs := #[.int .i64 a0_0, .int .i64 2, .slice A0_2 l0_2.length c0_2, .slice A0_3 l0_3.length c0_3, .slice A0_4 l0_4.length c0_4, .int .i64 a0_5, .int .i64 a0_6, .int .i64 a0_7, .int .i64 a0_8, .slice A0_9 l0_9.length c0_9, .int .i64 a0_10, .bool a0_11]) (t := 68) ?hr ?_; (case hd => rfl); (case hg => rfl); (case hr => first | (go_simp; done) | (go_simp; rfl)); intro gb hg w2 hbox hb; have HB2 := Aside0.mk hb; have BK := Aside0.mk hbox; have k0 := (blk_cell hbox 0).trans rfl; have k1 := (blk_cell hbox 1).trans rfl; have k2 := (blk_cell hbox 2).trans rfl; have k3 := (blk_cell hbox 3).trans rfl; have k4 := (blk_cell hbox 4).trans rfl; have k5 := (blk_cell hbox 5).trans rfl; have k6 := (blk_cell hbox 6).trans rfl; have k7 := (blk_cell hbox 7).trans rfl; have k8 := (blk_cell hbox 8).trans rfl; have k9 := (blk_cell hbox 9).trans rfl; have k10 := (blk_cell hbox 10).trans rfl; have k11 := (blk_cell hbox 11).trans rfl; clear hb hbox hg) | (go_at_call 48; (with_reducible refine (HC1.out _).mono ?_); rintro e w' ⟨rfl, hd⟩; obtain ⟨n1, rfl⟩ := hd.out; clear hd) | (go_at_call 48; (with_reducible refine (HC2.out _).mono ?_); rintro e w' ⟨rfl, hd⟩; obtain ⟨n2, rfl⟩ := hd.out; clear hd) | (go_at_call 48; (with_reducible refine (HC3.out _).mono ?_); rintro e w' ⟨rfl, hd⟩; obtain ⟨n3, rfl⟩ := hd.out; clear hd) | (go_at_call 70; (with_reducible refine (HC4.out _).mono ?_); rintro e w' ⟨rfl, hd⟩; obtain ⟨n4, rfl⟩ := hd.out; clear hd) | (go_at_call 70; (with_reducible refine (HC5.out _).mono ?_); rintro e w' ⟨rfl, hd⟩; obtain ⟨n5, rfl⟩ := hd.out; clear hd) | (go_at_call 48; (with_reducible refine (HC6.out _).mono ?_); rintro e w' ⟨rfl, hd⟩; obtain ⟨n6, rfl⟩ := hd.out; clear hd))
                go_ret
                exact ⟨rfl, by repeat (first | exact HB2.out | apply pw_below_drewN)⟩
              | true =>
                cases b7 : l0_9.any (fun v => !(btw v 0 4095)) with
                | true =>
                  simp only [b4, b5, b6, b7, Bool.and_true, Bool.and_false, Bool.true_and, Bool.false_and, Bool.not_true, Bool.not_false, if_true, Bool.true_eq_false, if_false, Int.reduceEq, if_pos, reduceIte] at h
                  subst h
                  have HC4 := Aside0.mk (iside_is _ _ b4)
                  have HC5 := Aside0.mk (iside_is _ _ b5)
                  have HC6 := Aside0.mk (iwithin_is _ _ _ _ b6)
                  have HC7 := Aside0.mk b7
                  clear b4 b5 b6 b7
                  go_enter Tryz.func53, Tryz.ntmps53
                  go_wp2_with (first | ((with_reducible refine gate_dst (N := 1) rfl ?_); refine box_event ?hg (N := 1) ?hd (cs := #[.int .i64 a0_0, .int .i64 2, .slice A0_2 l0_2.length c0_2, .slice A0_3 l0_3.length c0_3, .slice A0_4 l0_4.length c0_4, .int .i64 a0_5, .int .i64 a0_6, .int .i64 a0_7, .int .i64 a0_8, .slice A0_9 l0_9.length c0_9, .int .i64 a0_10, .bool a0_11]) (t := 68) ?hr ?_; (case hd => rfl); (case hg => rfl); (case hr => first | (go_simp; done) | (go_simp; rfl)); intro gb hg w2 hbox hb; have HB2 := Aside0.mk hb; have BK := Aside0.mk hbox; have k0 := (blk_cell hbox 0).trans rfl; have k1 := (blk_cell hbox 1).trans rfl; have k2 := (blk_cell hbox 2).trans rfl; have k3 := (blk_cell hbox 3).trans rfl; have k4 := (blk_cell hbox 4).trans rfl; have k5 := (blk_cell hbox 5).trans rfl; have k6 := (blk_cell hbox 6).trans rfl; have k7 := (blk_cell hbox 7).trans rfl; have k8 := (blk_cell hbox 8).trans rfl; have k9 := (blk_cell hbox 9).trans rfl; have k10 := (blk_cell hbox 10).trans rfl; have k11 := (blk_cell hbox 11).trans rfl; clear hb hbox hg) | (go_at_call 48; (with_reducible refine (HC1.out _).mono ?_); rintro e w' ⟨rfl, hd⟩; obtain ⟨n1, rfl⟩ := hd.out; clear hd) | (go_at_call 48; (with_reducible refine (HC2.out _).mono ?_); rintro e w' ⟨rfl, hd⟩; obtain ⟨n2, rfl⟩ := hd.out; clear hd) | (go_at_call 48; (with_reducible refine (HC3.out _).mono ?_); rintro e w' ⟨rfl, hd⟩; obtain ⟨n3, rfl⟩ := hd.out; clear hd) | (go_at_call 70; (with_reducible refine (HC4.out _).mono ?_); rintro e w' ⟨rfl, hd⟩; obtain ⟨n4, rfl⟩ := hd.out; clear hd) | (go_at_call 70; (with_reducible refine (HC5.out _).mono ?_); rintro e w' ⟨rfl, hd⟩; obtain ⟨n5, rfl⟩ := hd.out; clear hd) | (go_at_call 48; (with_reducible refine (HC6.out _).mono ?_); rintro e w' ⟨rfl, hd⟩; obtain ⟨n6, rfl⟩ := hd.out; clear hd) | (go_at_call 56; (with_reducible refine (ContainsFunc_int.calls 109 #[] (fun v => !(btw v 0 4095)) A0_9 c0_9 l0_9 _ ?hC ?hP).mono ?_); (case hC => exact Kd.C_below HR9.out (by repeat (first | exact HB2.out | apply pw_below_drewN))); (case hP => exact pred_109 _); rintro e w' ⟨rfl, hb⟩; have HBc7 := Aside0.mk (pw_below_trans (by repeat (first | exact HB2.out | apply pw_below_drewN)) hb); have BKc7 := Aside0.mk ((hb.block gb (by exact blk_lt BK.out)).trans (by exact BK.out)); clear hb; rw [HC7.out]; have k0 := (blk_cell BKc7.out 0).trans rfl; have k1 := (blk_cell BKc7.out 1).trans rfl; have k2 := (blk_cell BKc7.out 2).trans rfl; have k3 := (blk_cell BKc7.out 3).trans rfl; have k4 := (blk_cell BKc7.out 4).trans rfl; have k5 := (blk_cell BKc7.out 5).trans rfl; have k6 := (blk_cell BKc7.out 6).trans rfl; have k7 := (blk_cell BKc7.out 7).trans rfl; have k8 := (blk_cell BKc7.out 8).trans rfl; have k9 := (blk_cell BKc7.out 9).trans rfl; have k10 := (blk_cell BKc7.out 10).trans rfl; have k11 := (blk_cell BKc7.out 11).trans rfl))
                  go_ret
                  exact ⟨rfl, by repeat (first | exact HBc7.out | apply pw_below_drewN)⟩
                | false =>
                  cases b8 : decide ((l0_3.length : Int) ≤ 8) with
                  | false =>
                    simp only [b4, b5, b6, b7, b8, Bool.and_true, Bool.and_false, Bool.true_and, Bool.false_and, Bool.not_true, Bool.not_false, if_true, Bool.true_eq_false, if_false, Int.reduceEq, if_pos, reduceIte] at h
                    subst h
                    have HC4 := Aside0.mk (iside_is _ _ b4)
                    have HC5 := Aside0.mk (iside_is _ _ b5)
                    have HC6 := Aside0.mk (iwithin_is _ _ _ _ b6)
                    have HC7 := Aside0.mk b7
                    clear b4 b5 b6 b7
                    go_enter Tryz.func53, Tryz.ntmps53
                    go_wp2_with (first | ((with_reducible refine gate_dst (N := 1) rfl ?_); refine box_event ?hg (N := 1) ?hd (cs := #[.int .i64 a0_0, .int .i64 2, .slice A0_2 l0_2.length c0_2, .slice A0_3 l0_3.length c0_3, .slice A0_4 l0_4.length c0_4, .int .i64 a0_5, .int .i64 a0_6, .int .i64 a0_7, .int .i64 a0_8, .slice A0_9 l0_9.length c0_9, .int .i64 a0_10, .bool a0_11]) (t := 68) ?hr ?_; (case hd => rfl); (case hg => rfl); (case hr => first | (go_simp; done) | (go_simp; rfl)); intro gb hg w2 hbox hb; have HB2 := Aside0.mk hb; have BK := Aside0.mk hbox; have k0 := (blk_cell hbox 0).trans rfl; have k1 := (blk_cell hbox 1).trans rfl; have k2 := (blk_cell hbox 2).trans rfl; have k3 := (blk_cell hbox 3).trans rfl; have k4 := (blk_cell hbox 4).trans rfl; have k5 := (blk_cell hbox 5).trans rfl; have k6 := (blk_cell hbox 6).trans rfl; have k7 := (blk_cell hbox 7).trans rfl; have k8 := (blk_cell hbox 8).trans rfl; have k9 := (blk_cell hbox 9).trans rfl; have k10 := (blk_cell hbox 10).trans rfl; have k11 := (blk_cell hbox 11).trans rfl; clear hb hbox hg) | (go_at_call 48; (with_reducible refine (HC1.out _).mono ?_); rintro e w' ⟨rfl, hd⟩; obtain ⟨n1, rfl⟩ := hd.out; clear hd) | (go_at_call 48; (with_reducible refine (HC2.out _).mono ?_); rintro e w' ⟨rfl, hd⟩; obtain ⟨n2, rfl⟩ := hd.out; clear hd) | (go_at_call 48; (with_reducible refine (HC3.out _).mono ?_); rintro e w' ⟨rfl, hd⟩; obtain ⟨n3, rfl⟩ := hd.out; clear hd) | (go_at_call 70; (with_reducible refine (HC4.out _).mono ?_); rintro e w' ⟨rfl, hd⟩; obtain ⟨n4, rfl⟩ := hd.out; clear hd) | (go_at_call 70; (with_reducible refine (HC5.out _).mono ?_); rintro e w' ⟨rfl, hd⟩; obtain ⟨n5, rfl⟩ := hd.out; clear hd) | (go_at_call 48; (with_reducible refine (HC6.out _).mono ?_); rintro e w' ⟨rfl, hd⟩; obtain ⟨n6, rfl⟩ := hd.out; clear hd) | (go_at_call 56; (with_reducible refine (ContainsFunc_int.calls 109 #[] (fun v => !(btw v 0 4095)) A0_9 c0_9 l0_9 _ ?hC ?hP).mono ?_); (case hC => exact Kd.C_below HR9.out (by repeat (first | exact HB2.out | apply pw_below_drewN))); (case hP => exact pred_109 _); rintro e w' ⟨rfl, hb⟩; have HBc7 := Aside0.mk (pw_below_trans (by repeat (first | exact HB2.out | apply pw_below_drewN)) hb); have BKc7 := Aside0.mk ((hb.block gb (by exact blk_lt BK.out)).trans (by exact BK.out)); clear hb; rw [HC7.out]; have k0 := (blk_cell BKc7.out 0).trans rfl; have k1 := (blk_cell BKc7.out 1).trans rfl; have k2 := (blk_cell BKc7.out 2).trans rfl; have k3 := (blk_cell BKc7.out 3).trans rfl; have k4 := (blk_cell BKc7.out 4).trans rfl; have k5 := (blk_cell BKc7.out 5).trans rfl; have k6 := (blk_cell BKc7.out 6).trans rfl; have k7 := (blk_cell BKc7.out 7).trans rfl; have k8 := (blk_cell BKc7.out 8).trans rfl; have k9 := (blk_cell BKc7.out 9).trans rfl; have k10 := (blk_cell BKc7.out 10).trans rfl; have k11 := (blk_cell BKc7.out 11).trans rfl))
                    go_ret
                    exact ⟨rfl, by repeat (first | exact HBc7.out | apply pw_below_drewN)⟩
                  | true =>
                    cases b9 : ((l0_4.length : Int) == wrap64 (2 * (l0_3.length : Int))) with
                    | false =>
                      simp only [b4, b5, b6, b7, b8, b9, Bool.and_true, Bool.and_false, Bool.true_and, Bool.false_and, Bool.not_true, Bool.not_false, if_true, Bool.true_eq_false, if_false, Int.reduceEq, if_pos, reduceIte] at h
                      subst h
                      have HC4 := Aside0.mk (iside_is _ _ b4)
                      have HC5 := Aside0.mk (iside_is _ _ b5)
                      have HC6 := Aside0.mk (iwithin_is _ _ _ _ b6)
                      have HC7 := Aside0.mk b7
                      clear b4 b5 b6 b7
                      go_enter Tryz.func53, Tryz.ntmps53
                      go_wp2_with (first | ((with_reducible refine gate_dst (N := 1) rfl ?_); refine box_event ?hg (N := 1) ?hd (cs := #[.int .i64 a0_0, .int .i64 2, .slice A0_2 l0_2.length c0_2, .slice A0_3 l0_3.length c0_3, .slice A0_4 l0_4.length c0_4, .int .i64 a0_5, .int .i64 a0_6, .int .i64 a0_7, .int .i64 a0_8, .slice A0_9 l0_9.length c0_9, .int .i64 a0_10, .bool a0_11]) (t := 68) ?hr ?_; (case hd => rfl); (case hg => rfl); (case hr => first | (go_simp; done) | (go_simp; rfl)); intro gb hg w2 hbox hb; have HB2 := Aside0.mk hb; have BK := Aside0.mk hbox; have k0 := (blk_cell hbox 0).trans rfl; have k1 := (blk_cell hbox 1).trans rfl; have k2 := (blk_cell hbox 2).trans rfl; have k3 := (blk_cell hbox 3).trans rfl; have k4 := (blk_cell hbox 4).trans rfl; have k5 := (blk_cell hbox 5).trans rfl; have k6 := (blk_cell hbox 6).trans rfl; have k7 := (blk_cell hbox 7).trans rfl; have k8 := (blk_cell hbox 8).trans rfl; have k9 := (blk_cell hbox 9).trans rfl; have k10 := (blk_cell hbox 10).trans rfl; have k11 := (blk_cell hbox 11).trans rfl; clear hb hbox hg) | (go_at_call 48; (with_reducible refine (HC1.out _).mono ?_); rintro e w' ⟨rfl, hd⟩; obtain ⟨n1, rfl⟩ := hd.out; clear hd) | (go_at_call 48; (with_reducible refine (HC2.out _).mono ?_); rintro e w' ⟨rfl, hd⟩; obtain ⟨n2, rfl⟩ := hd.out; clear hd) | (go_at_call 48; (with_reducible refine (HC3.out _).mono ?_); rintro e w' ⟨rfl, hd⟩; obtain ⟨n3, rfl⟩ := hd.out; clear hd) | (go_at_call 70; (with_reducible refine (HC4.out _).mono ?_); rintro e w' ⟨rfl, hd⟩; obtain ⟨n4, rfl⟩ := hd.out; clear hd) | (go_at_call 70; (with_reducible refine (HC5.out _).mono ?_); rintro e w' ⟨rfl, hd⟩; obtain ⟨n5, rfl⟩ := hd.out; clear hd) | (go_at_call 48; (with_reducible refine (HC6.out _).mono ?_); rintro e w' ⟨rfl, hd⟩; obtain ⟨n6, rfl⟩ := hd.out; clear hd) | (go_at_call 56; (with_reducible refine (ContainsFunc_int.calls 109 #[] (fun v => !(btw v 0 4095)) A0_9 c0_9 l0_9 _ ?hC ?hP).mono ?_); (case hC => exact Kd.C_below HR9.out (by repeat (first | exact HB2.out | apply pw_below_drewN))); (case hP => exact pred_109 _); rintro e w' ⟨rfl, hb⟩; have HBc7 := Aside0.mk (pw_below_trans (by repeat (first | exact HB2.out | apply pw_below_drewN)) hb); have BKc7 := Aside0.mk ((hb.block gb (by exact blk_lt BK.out)).trans (by exact BK.out)); clear hb; rw [HC7.out]; have k0 := (blk_cell BKc7.out 0).trans rfl; have k1 := (blk_cell BKc7.out 1).trans rfl; have k2 := (blk_cell BKc7.out 2).trans rfl; have k3 := (blk_cell BKc7.out 3).trans rfl; have k4 := (blk_cell BKc7.out 4).trans rfl; have k5 := (blk_cell BKc7.out 5).trans rfl; have k6 := (blk_cell BKc7.out 6).trans rfl; have k7 := (blk_cell BKc7.out 7).trans rfl; have k8 := (blk_cell BKc7.out 8).trans rfl; have k9 := (blk_cell BKc7.out 9).trans rfl; have k10 := (blk_cell BKc7.out 10).trans rfl; have k11 := (blk_cell BKc7.out 11).trans rfl))
                      go_ret
                      exact ⟨rfl, by repeat (first | exact HBc7.out | apply pw_below_drewN)⟩
                    | true =>
                      cases b10 : l0_4.any (fun v => !(btw v (-64) 64)) with
                      | false =>
                        simp only [b4, b5, b6, b7, b8, b9, b10, Bool.and_true, Bool.and_false, Bool.true_and, Bool.false_and, Bool.not_true, Bool.not_false, if_true, Bool.true_eq_false, if_false, Int.reduceEq, if_pos, reduceIte] at h
                        subst h
                        have HC4 := Aside0.mk (iside_is _ _ b4)
                        have HC5 := Aside0.mk (iside_is _ _ b5)
                        have HC6 := Aside0.mk (iwithin_is _ _ _ _ b6)
                        have HC7 := Aside0.mk b7
                        have HC10 := Aside0.mk b10
                        clear b4 b5 b6 b7 b10
                        go_enter Tryz.func53, Tryz.ntmps53
                        go_wp2_with (first | ((with_reducible refine gate_dst (N := 1) rfl ?_); refine box_event ?hg (N := 1) ?hd (cs := #[.int .i64 a0_0, .int .i64 2, .slice A0_2 l0_2.length c0_2, .slice A0_3 l0_3.length c0_3, .slice A0_4 l0_4.length c0_4, .int .i64 a0_5, .int .i64 a0_6, .int .i64 a0_7, .int .i64 a0_8, .slice A0_9 l0_9.length c0_9, .int .i64 a0_10, .bool a0_11]) (t := 68) ?hr ?_; (case hd => rfl); (case hg => rfl); (case hr => first | (go_simp; done) | (go_simp; rfl)); intro gb hg w2 hbox hb; have HB2 := Aside0.mk hb; have BK := Aside0.mk hbox; have k0 := (blk_cell hbox 0).trans rfl; have k1 := (blk_cell hbox 1).trans rfl; have k2 := (blk_cell hbox 2).trans rfl; have k3 := (blk_cell hbox 3).trans rfl; have k4 := (blk_cell hbox 4).trans rfl; have k5 := (blk_cell hbox 5).trans rfl; have k6 := (blk_cell hbox 6).trans rfl; have k7 := (blk_cell hbox 7).trans rfl; have k8 := (blk_cell hbox 8).trans rfl; have k9 := (blk_cell hbox 9).trans rfl; have k10 := (blk_cell hbox 10).trans rfl; have k11 := (blk_cell hbox 11).trans rfl; clear hb hbox hg) | (go_at_call 48; (with_reducible refine (HC1.out _).mono ?_); rintro e w' ⟨rfl, hd⟩; obtain ⟨n1, rfl⟩ := hd.out; clear hd) | (go_at_call 48; (with_reducible refine (HC2.out _).mono ?_); rintro e w' ⟨rfl, hd⟩; obtain ⟨n2, rfl⟩ := hd.out; clear hd) | (go_at_call 48; (with_reducible refine (HC3.out _).mono ?_); rintro e w' ⟨rfl, hd⟩; obtain ⟨n3, rfl⟩ := hd.out; clear hd) | (go_at_call 70; (with_reducible refine (HC4.out _).mono ?_); rintro e w' ⟨rfl, hd⟩; obtain ⟨n4, rfl⟩ := hd.out; clear hd) | (go_at_call 70; (with_reducible refine (HC5.out _).mono ?_); rintro e w' ⟨rfl, hd⟩; obtain ⟨n5, rfl⟩ := hd.out; clear hd) | (go_at_call 48; (with_reducible refine (HC6.out _).mono ?_); rintro e w' ⟨rfl, hd⟩; obtain ⟨n6, rfl⟩ := hd.out; clear hd) | (go_at_call 56; (with_reducible refine (ContainsFunc_int.calls 109 #[] (fun v => !(btw v 0 4095)) A0_9 c0_9 l0_9 _ ?hC ?hP).mono ?_); (case hC => exact Kd.C_below HR9.out (by repeat (first | exact HB2.out | apply pw_below_drewN))); (case hP => exact pred_109 _); rintro e w' ⟨rfl, hb⟩; have HBc7 := Aside0.mk (pw_below_trans (by repeat (first | exact HB2.out | apply pw_below_drewN)) hb); have BKc7 := Aside0.mk ((hb.block gb (by exact blk_lt BK.out)).trans (by exact BK.out)); clear hb; rw [HC7.out]; have k0 := (blk_cell BKc7.out 0).trans rfl; have k1 := (blk_cell BKc7.out 1).trans rfl; have k2 := (blk_cell BKc7.out 2).trans rfl; have k3 := (blk_cell BKc7.out 3).trans rfl; have k4 := (blk_cell BKc7.out 4).trans rfl; have k5 := (blk_cell BKc7.out 5).trans rfl; have k6 := (blk_cell BKc7.out 6).trans rfl; have k7 := (blk_cell BKc7.out 7).trans rfl; have k8 := (blk_cell BKc7.out 8).trans rfl; have k9 := (blk_cell BKc7.out 9).trans rfl; have k10 := (blk_cell BKc7.out 10).trans rfl; have k11 := (blk_cell BKc7.out 11).trans rfl) | (go_at_call 56; (with_reducible refine (ContainsFunc_int.calls 110 #[] (fun v => !(btw v (-64) 64)) A0_4 c0_4 l0_4 _ ?hC ?hP).mono ?_); (case hC => exact Kd.C_below HR4.out (by repeat (first | exact HBc7.out | apply pw_below_drewN))); (case hP => exact pred_110 _); rintro e w' ⟨rfl, hb⟩; have HBc10 := Aside0.mk (pw_below_trans (by repeat (first | exact HBc7.out | apply pw_below_drewN)) hb); have BKc10 := Aside0.mk ((hb.block gb (by exact blk_lt BKc7.out)).trans (by exact BKc7.out)); clear hb; rw [HC10.out]; have k0 := (blk_cell BKc10.out 0).trans rfl; have k1 := (blk_cell BKc10.out 1).trans rfl; have k2 := (blk_cell BKc10.out 2).trans rfl; have k3 := (blk_cell BKc10.out 3).trans rfl; have k4 := (blk_cell BKc10.out 4).trans rfl; have k5 := (blk_cell BKc10.out 5).trans rfl; have k6 := (blk_cell BKc10.out 6).trans rfl; have k7 := (blk_cell BKc10.out 7).trans rfl; have k8 := (blk_cell BKc10.out 8).trans rfl; have k9 := (blk_cell BKc10.out 9).trans rfl; have k10 := (blk_cell BKc10.out 10).trans rfl; have k11 := (blk_cell BKc10.out 11).trans rfl))
                        go_ret
                        exact ⟨rfl, by repeat (first | exact HBc10.out | apply pw_below_drewN)⟩
                      | true =>
                        simp only [b4, b5, b6, b7, b8, b9, b10, Bool.and_true, Bool.and_false, Bool.true_and, Bool.false_and, Bool.not_true, Bool.not_false, if_true, Bool.true_eq_false, if_false, Int.reduceEq, if_pos, reduceIte] at h
                        subst h
                        have HC4 := Aside0.mk (iside_is _ _ b4)
                        have HC5 := Aside0.mk (iside_is _ _ b5)
                        have HC6 := Aside0.mk (iwithin_is _ _ _ _ b6)
                        have HC7 := Aside0.mk b7
                        have HC10 := Aside0.mk b10
                        clear b4 b5 b6 b7 b10
                        go_enter Tryz.func53, Tryz.ntmps53
                        go_wp2_with (first | ((with_reducible refine gate_dst (N := 1) rfl ?_); refine box_event ?hg (N := 1) ?hd (cs := #[.int .i64 a0_0, .int .i64 2, .slice A0_2 l0_2.length c0_2, .slice A0_3 l0_3.length c0_3, .slice A0_4 l0_4.length c0_4, .int .i64 a0_5, .int .i64 a0_6, .int .i64 a0_7, .int .i64 a0_8, .slice A0_9 l0_9.length c0_9, .int .i64 a0_10, .bool a0_11]) (t := 68) ?hr ?_; (case hd => rfl); (case hg => rfl); (case hr => first | (go_simp; done) | (go_simp; rfl)); intro gb hg w2 hbox hb; have HB2 := Aside0.mk hb; have BK := Aside0.mk hbox; have k0 := (blk_cell hbox 0).trans rfl; have k1 := (blk_cell hbox 1).trans rfl; have k2 := (blk_cell hbox 2).trans rfl; have k3 := (blk_cell hbox 3).trans rfl; have k4 := (blk_cell hbox 4).trans rfl; have k5 := (blk_cell hbox 5).trans rfl; have k6 := (blk_cell hbox 6).trans rfl; have k7 := (blk_cell hbox 7).trans rfl; have k8 := (blk_cell hbox 8).trans rfl; have k9 := (blk_cell hbox 9).trans rfl; have k10 := (blk_cell hbox 10).trans rfl; have k11 := (blk_cell hbox 11).trans rfl; clear hb hbox hg) | (go_at_call 48; (with_reducible refine (HC1.out _).mono ?_); rintro e w' ⟨rfl, hd⟩; obtain ⟨n1, rfl⟩ := hd.out; clear hd) | (go_at_call 48; (with_reducible refine (HC2.out _).mono ?_); rintro e w' ⟨rfl, hd⟩; obtain ⟨n2, rfl⟩ := hd.out; clear hd) | (go_at_call 48; (with_reducible refine (HC3.out _).mono ?_); rintro e w' ⟨rfl, hd⟩; obtain ⟨n3, rfl⟩ := hd.out; clear hd) | (go_at_call 70; (with_reducible refine (HC4.out _).mono ?_); rintro e w' ⟨rfl, hd⟩; obtain ⟨n4, rfl⟩ := hd.out; clear hd) | (go_at_call 70; (with_reducible refine (HC5.out _).mono ?_); rintro e w' ⟨rfl, hd⟩; obtain ⟨n5, rfl⟩ := hd.out; clear hd) | (go_at_call 48; (with_reducible refine (HC6.out _).mono ?_); rintro e w' ⟨rfl, hd⟩; obtain ⟨n6, rfl⟩ := hd.out; clear hd) | (go_at_call 56; (with_reducible refine (ContainsFunc_int.calls 109 #[] (fun v => !(btw v 0 4095)) A0_9 c0_9 l0_9 _ ?hC ?hP).mono ?_); (case hC => exact Kd.C_below HR9.out (by repeat (first | exact HB2.out | apply pw_below_drewN))); (case hP => exact pred_109 _); rintro e w' ⟨rfl, hb⟩; have HBc7 := Aside0.mk (pw_below_trans (by repeat (first | exact HB2.out | apply pw_below_drewN)) hb); have BKc7 := Aside0.mk ((hb.block gb (by exact blk_lt BK.out)).trans (by exact BK.out)); clear hb; rw [HC7.out]; have k0 := (blk_cell BKc7.out 0).trans rfl; have k1 := (blk_cell BKc7.out 1).trans rfl; have k2 := (blk_cell BKc7.out 2).trans rfl; have k3 := (blk_cell BKc7.out 3).trans rfl; have k4 := (blk_cell BKc7.out 4).trans rfl; have k5 := (blk_cell BKc7.out 5).trans rfl; have k6 := (blk_cell BKc7.out 6).trans rfl; have k7 := (blk_cell BKc7.out 7).trans rfl; have k8 := (blk_cell BKc7.out 8).trans rfl; have k9 := (blk_cell BKc7.out 9).trans rfl; have k10 := (blk_cell BKc7.out 10).trans rfl; have k11 := (blk_cell BKc7.out 11).trans rfl) | (go_at_call 56; (with_reducible refine (ContainsFunc_int.calls 110 #[] (fun v => !(btw v (-64) 64)) A0_4 c0_4 l0_4 _ ?hC ?hP).mono ?_); (case hC => exact Kd.C_below HR4.out (by repeat (first | exact HBc7.out | apply pw_below_drewN))); (case hP => exact pred_110 _); rintro e w' ⟨rfl, hb⟩; have HBc10 := Aside0.mk (pw_below_trans (by repeat (first | exact HBc7.out | apply pw_below_drewN)) hb); have BKc10 := Aside0.mk ((hb.block gb (by exact blk_lt BKc7.out)).trans (by exact BKc7.out)); clear hb; rw [HC10.out]; have k0 := (blk_cell BKc10.out 0).trans rfl; have k1 := (blk_cell BKc10.out 1).trans rfl; have k2 := (blk_cell BKc10.out 2).trans rfl; have k3 := (blk_cell BKc10.out 3).trans rfl; have k4 := (blk_cell BKc10.out 4).trans rfl; have k5 := (blk_cell BKc10.out 5).trans rfl; have k6 := (blk_cell BKc10.out 6).trans rfl; have k7 := (blk_cell BKc10.out 7).trans rfl; have k8 := (blk_cell BKc10.out 8).trans rfl; have k9 := (blk_cell BKc10.out 9).trans rfl; have k10 := (blk_cell BKc10.out 10).trans rfl; have k11 := (blk_cell BKc10.out 11).trans rfl))
                        go_ret
                        exact ⟨rfl, by repeat (first | exact HBc10.out | apply pw_below_drewN)⟩
        · simp only [Int.reduceEq, if_false, if_true, reduceIte] at h
          cases b4 : btw a0_7 1 64 with
          | false =>
            simp only [b4, Bool.and_true, Bool.and_false, Bool.true_and, Bool.false_and, Bool.not_true, Bool.not_false, if_true, Bool.true_eq_false, if_false, Int.reduceEq, if_pos, reduceIte] at h
            subst h
            have HC4 := Aside0.mk (iside_is _ _ b4)
            clear b4
            go_enter Tryz.func53, Tryz.ntmps53
            go_wp2_with (first | ((with_reducible refine gate_dst (N := 1) rfl ?_); refine box_event ?hg (N := 1) ?hd (cs := #[.int .i64 a0_0, .int .i64 3, .slice A0_2 l0_2.length c0_2, .slice A0_3 l0_3.length c0_3, .slice A0_4 l0_4.length c0_4, .int .i64 a0_5, .int .i64 a0_6, .int .i64 a0_7, .int .i64 a0_8, .slice A0_9 l0_9.length c0_9, .int .i64 a0_10, .bool a0_11]) (t := 68) ?hr ?_; (case hd => rfl); (case hg => rfl); (case hr => first | (go_simp; done) | (go_simp; rfl)); intro gb hg w2 hbox hb; have HB2 := Aside0.mk hb; have BK := Aside0.mk hbox; have k0 := (blk_cell hbox 0).trans rfl; have k1 := (blk_cell hbox 1).trans rfl; have k2 := (blk_cell hbox 2).trans rfl; have k3 := (blk_cell hbox 3).trans rfl; have k4 := (blk_cell hbox 4).trans rfl; have k5 := (blk_cell hbox 5).trans rfl; have k6 := (blk_cell hbox 6).trans rfl; have k7 := (blk_cell hbox 7).trans rfl; have k8 := (blk_cell hbox 8).trans rfl; have k9 := (blk_cell hbox 9).trans rfl; have k10 := (blk_cell hbox 10).trans rfl; have k11 := (blk_cell hbox 11).trans rfl; clear hb hbox hg) | (go_at_call 48; (with_reducible refine (HC1.out _).mono ?_); rintro e w' ⟨rfl, hd⟩; obtain ⟨n1, rfl⟩ := hd.out; clear hd) | (go_at_call 48; (with_reducible refine (HC2.out _).mono ?_); rintro e w' ⟨rfl, hd⟩; obtain ⟨n2, rfl⟩ := hd.out; clear hd) | (go_at_call 48; (with_reducible refine (HC3.out _).mono ?_); rintro e w' ⟨rfl, hd⟩; obtain ⟨n3, rfl⟩ := hd.out; clear hd) | (go_at_call 70; (with_reducible refine (HC4.out _).mono ?_); rintro e w' ⟨rfl, hd⟩; obtain ⟨n4, rfl⟩ := hd.out; clear hd))
            go_ret
            exact ⟨rfl, by repeat (first | exact HB2.out | apply pw_below_drewN)⟩
          | true =>
            cases b5 : btw a0_8 1 64 with
            | false =>
              simp only [b4, b5, Bool.and_true, Bool.and_false, Bool.true_and, Bool.false_and, Bool.not_true, Bool.not_false, if_true, Bool.true_eq_false, if_false, Int.reduceEq, if_pos, reduceIte] at h
              subst h
              have HC4 := Aside0.mk (iside_is _ _ b4)
              have HC5 := Aside0.mk (iside_is _ _ b5)
              clear b4 b5
              go_enter Tryz.func53, Tryz.ntmps53
              go_wp2_with (first | ((with_reducible refine gate_dst (N := 1) rfl ?_); refine box_event ?hg (N := 1) ?hd (cs := #[.int .i64 a0_0, .int .i64 3, .slice A0_2 l0_2.length c0_2, .slice A0_3 l0_3.length c0_3, .slice A0_4 l0_4.length c0_4, .int .i64 a0_5, .int .i64 a0_6, .int .i64 a0_7, .int .i64 a0_8, .slice A0_9 l0_9.length c0_9, .int .i64 a0_10, .bool a0_11]) (t := 68) ?hr ?_; (case hd => rfl); (case hg => rfl); (case hr => first | (go_simp; done) | (go_simp; rfl)); intro gb hg w2 hbox hb; have HB2 := Aside0.mk hb; have BK := Aside0.mk hbox; have k0 := (blk_cell hbox 0).trans rfl; have k1 := (blk_cell hbox 1).trans rfl; have k2 := (blk_cell hbox 2).trans rfl; have k3 := (blk_cell hbox 3).trans rfl; have k4 := (blk_cell hbox 4).trans rfl; have k5 := (blk_cell hbox 5).trans rfl; have k6 := (blk_cell hbox 6).trans rfl; have k7 := (blk_cell hbox 7).trans rfl; have k8 := (blk_cell hbox 8).trans rfl; have k9 := (blk_cell hbox 9).trans rfl; have k10 := (blk_cell hbox 10).trans rfl; have k11 := (blk_cell hbox 11).trans rfl; clear hb hbox hg) | (go_at_call 48; (with_reducible refine (HC1.out _).mono ?_); rintro e w' ⟨rfl, hd⟩; obtain ⟨n1, rfl⟩ := hd.out; clear hd) | (go_at_call 48; (with_reducible refine (HC2.out _).mono ?_); rintro e w' ⟨rfl, hd⟩; obtain ⟨n2, rfl⟩ := hd.out; clear hd) | (go_at_call 48; (with_reducible refine (HC3.out _).mono ?_); rintro e w' ⟨rfl, hd⟩; obtain ⟨n3, rfl⟩ := hd.out; clear hd) | (go_at_call 70; (with_reducible refine (HC4.out _).mono ?_); rintro e w' ⟨rfl, hd⟩; obtain ⟨n4, rfl⟩ := hd.out; clear hd) | (go_at_call 70; (with_reducible refine (HC5.out _).mono ?_); rintro e w' ⟨rfl, hd⟩; obtain ⟨n5, rfl⟩ := hd.out; clear hd))
              go_ret
              exact ⟨rfl, by repeat (first | exact HB2.out | apply pw_below_drewN)⟩
            | true =>
              cases b6 : btw a0_5 1 8 with
              | false =>
                simp only [b4, b5, b6, Bool.and_true, Bool.and_false, Bool.true_and, Bool.false_and, Bool.not_true, Bool.not_false, if_true, Bool.true_eq_false, if_false, Int.reduceEq, if_pos, reduceIte] at h
                subst h
                have HC4 := Aside0.mk (iside_is _ _ b4)
                have HC5 := Aside0.mk (iside_is _ _ b5)
                have HC6 := Aside0.mk (iwithin_is _ _ _ _ b6)
                clear b4 b5 b6
                go_enter Tryz.func53, Tryz.ntmps53
                go_wp2_with (first | ((with_reducible refine gate_dst (N := 1) rfl ?_); refine box_event ?hg (N := 1) ?hd (cs := #[.int .i64 a0_0, .int .i64 3, .slice A0_2 l0_2.length c0_2, .slice A0_3 l0_3.length c0_3, .slice A0_4 l0_4.length c0_4, .int .i64 a0_5, .int .i64 a0_6, .int .i64 a0_7, .int .i64 a0_8, .slice A0_9 l0_9.length c0_9, .int .i64 a0_10, .bool a0_11]) (t := 68) ?hr ?_; (case hd => rfl); (case hg => rfl); (case hr => first | (go_simp; done) | (go_simp; rfl)); intro gb hg w2 hbox hb; have HB2 := Aside0.mk hb; have BK := Aside0.mk hbox; have k0 := (blk_cell hbox 0).trans rfl; have k1 := (blk_cell hbox 1).trans rfl; have k2 := (blk_cell hbox 2).trans rfl; have k3 := (blk_cell hbox 3).trans rfl; have k4 := (blk_cell hbox 4).trans rfl; have k5 := (blk_cell hbox 5).trans rfl; have k6 := (blk_cell hbox 6).trans rfl; have k7 := (blk_cell hbox 7).trans rfl; have k8 := (blk_cell hbox 8).trans rfl; have k9 := (blk_cell hbox 9).trans rfl; have k10 := (blk_cell hbox 10).trans rfl; have k11 := (blk_cell hbox 11).trans rfl; clear hb hbox hg) | (go_at_call 48; (with_reducible refine (HC1.out _).mono ?_); rintro e w' ⟨rfl, hd⟩; obtain ⟨n1, rfl⟩ := hd.out; clear hd) | (go_at_call 48; (with_reducible refine (HC2.out _).mono ?_); rintro e w' ⟨rfl, hd⟩; obtain ⟨n2, rfl⟩ := hd.out; clear hd) | (go_at_call 48; (with_reducible refine (HC3.out _).mono ?_); rintro e w' ⟨rfl, hd⟩; obtain ⟨n3, rfl⟩ := hd.out; clear hd) | (go_at_call 70; (with_reducible refine (HC4.out _).mono ?_); rintro e w' ⟨rfl, hd⟩; obtain ⟨n4, rfl⟩ := hd.out; clear hd) | (go_at_call 70; (with_reducible refine (HC5.out _).mono ?_); rintro e w' ⟨rfl, hd⟩; obtain ⟨n5, rfl⟩ := hd.out; clear hd) | (go_at_call 48; (with_reducible refine (HC6.out _).mono ?_); rintro e w' ⟨rfl, hd⟩; obtain ⟨n6, rfl⟩ := hd.out; clear hd))
                go_ret
                exact ⟨rfl, by repeat (first | exact HB2.out | apply pw_below_drewN)⟩
              | true =>
                cases b7 : btw a0_6 1 8 with
                | false =>
                  simp only [b4, b5, b6, b7, Bool.and_true, Bool.and_false, Bool.true_and, Bool.false_and, Bool.not_true, Bool.not_false, if_true, Bool.true_eq_false, if_false, Int.reduceEq, if_pos, reduceIte] at h
                  subst h
                  have HC4 := Aside0.mk (iside_is _ _ b4)
                  have HC5 := Aside0.mk (iside_is _ _ b5)
                  have HC6 := Aside0.mk (iwithin_is _ _ _ _ b6)
                  have HC7 := Aside0.mk (iwithin_is _ _ _ _ b7)
                  clear b4 b5 b6 b7
                  go_enter Tryz.func53, Tryz.ntmps53
                  go_wp2_with (first | ((with_reducible refine gate_dst (N := 1) rfl ?_); refine box_event ?hg (N := 1) ?hd (cs := #[.int .i64 a0_0, .int .i64 3, .slice A0_2 l0_2.length c0_2, .slice A0_3 l0_3.length c0_3, .slice A0_4 l0_4.length c0_4, .int .i64 a0_5, .int .i64 a0_6, .int .i64 a0_7, .int .i64 a0_8, .slice A0_9 l0_9.length c0_9, .int .i64 a0_10, .bool a0_11]) (t := 68) ?hr ?_; (case hd => rfl); (case hg => rfl); (case hr => first | (go_simp; done) | (go_simp; rfl)); intro gb hg w2 hbox hb; have HB2 := Aside0.mk hb; have BK := Aside0.mk hbox; have k0 := (blk_cell hbox 0).trans rfl; have k1 := (blk_cell hbox 1).trans rfl; have k2 := (blk_cell hbox 2).trans rfl; have k3 := (blk_cell hbox 3).trans rfl; have k4 := (blk_cell hbox 4).trans rfl; have k5 := (blk_cell hbox 5).trans rfl; have k6 := (blk_cell hbox 6).trans rfl; have k7 := (blk_cell hbox 7).trans rfl; have k8 := (blk_cell hbox 8).trans rfl; have k9 := (blk_cell hbox 9).trans rfl; have k10 := (blk_cell hbox 10).trans rfl; have k11 := (blk_cell hbox 11).trans rfl; clear hb hbox hg) | (go_at_call 48; (with_reducible refine (HC1.out _).mono ?_); rintro e w' ⟨rfl, hd⟩; obtain ⟨n1, rfl⟩ := hd.out; clear hd) | (go_at_call 48; (with_reducible refine (HC2.out _).mono ?_); rintro e w' ⟨rfl, hd⟩; obtain ⟨n2, rfl⟩ := hd.out; clear hd) | (go_at_call 48; (with_reducible refine (HC3.out _).mono ?_); rintro e w' ⟨rfl, hd⟩; obtain ⟨n3, rfl⟩ := hd.out; clear hd) | (go_at_call 70; (with_reducible refine (HC4.out _).mono ?_); rintro e w' ⟨rfl, hd⟩; obtain ⟨n4, rfl⟩ := hd.out; clear hd) | (go_at_call 70; (with_reducible refine (HC5.out _).mono ?_); rintro e w' ⟨rfl, hd⟩; obtain ⟨n5, rfl⟩ := hd.out; clear hd) | (go_at_call 48; (with_reducible refine (HC6.out _).mono ?_); rintro e w' ⟨rfl, hd⟩; obtain ⟨n6, rfl⟩ := hd.out; clear hd) | (go_at_call 48; (with_reducible refine (HC7.out _).mono ?_); rintro e w' ⟨rfl, hd⟩; obtain ⟨n7, rfl⟩ := hd.out; clear hd))
                  go_ret
                  exact ⟨rfl, by repeat (first | exact HB2.out | apply pw_below_drewN)⟩
                | true =>
                  cases b8 : ((l0_3.length : Int) == wrap64 (a0_5 * a0_6)) with
                  | false =>
                    simp only [b4, b5, b6, b7, b8, Bool.and_true, Bool.and_false, Bool.true_and, Bool.false_and, Bool.not_true, Bool.not_false, if_true, Bool.true_eq_false, if_false, Int.reduceEq, if_pos, reduceIte] at h
                    subst h
                    have HC4 := Aside0.mk (iside_is _ _ b4)
                    have HC5 := Aside0.mk (iside_is _ _ b5)
                    have HC6 := Aside0.mk (iwithin_is _ _ _ _ b6)
                    have HC7 := Aside0.mk (iwithin_is _ _ _ _ b7)
                    clear b4 b5 b6 b7
                    go_enter Tryz.func53, Tryz.ntmps53
                    go_wp2_with (first | ((with_reducible refine gate_dst (N := 1) rfl ?_); refine box_event ?hg (N := 1) ?hd (cs := #[.int .i64 a0_0, .int .i64 3, .slice A0_2 l0_2.length c0_2, .slice A0_3 l0_3.length c0_3, .slice A0_4 l0_4.length c0_4, .int .i64 a0_5, .int .i64 a0_6, .int .i64 a0_7, .int .i64 a0_8, .slice A0_9 l0_9.length c0_9, .int .i64 a0_10, .bool a0_11]) (t := 68) ?hr ?_; (case hd => rfl); (case hg => rfl); (case hr => first | (go_simp; done) | (go_simp; rfl)); intro gb hg w2 hbox hb; have HB2 := Aside0.mk hb; have BK := Aside0.mk hbox; have k0 := (blk_cell hbox 0).trans rfl; have k1 := (blk_cell hbox 1).trans rfl; have k2 := (blk_cell hbox 2).trans rfl; have k3 := (blk_cell hbox 3).trans rfl; have k4 := (blk_cell hbox 4).trans rfl; have k5 := (blk_cell hbox 5).trans rfl; have k6 := (blk_cell hbox 6).trans rfl; have k7 := (blk_cell hbox 7).trans rfl; have k8 := (blk_cell hbox 8).trans rfl; have k9 := (blk_cell hbox 9).trans rfl; have k10 := (blk_cell hbox 10).trans rfl; have k11 := (blk_cell hbox 11).trans rfl; clear hb hbox hg) | (go_at_call 48; (with_reducible refine (HC1.out _).mono ?_); rintro e w' ⟨rfl, hd⟩; obtain ⟨n1, rfl⟩ := hd.out; clear hd) | (go_at_call 48; (with_reducible refine (HC2.out _).mono ?_); rintro e w' ⟨rfl, hd⟩; obtain ⟨n2, rfl⟩ := hd.out; clear hd) | (go_at_call 48; (with_reducible refine (HC3.out _).mono ?_); rintro e w' ⟨rfl, hd⟩; obtain ⟨n3, rfl⟩ := hd.out; clear hd) | (go_at_call 70; (with_reducible refine (HC4.out _).mono ?_); rintro e w' ⟨rfl, hd⟩; obtain ⟨n4, rfl⟩ := hd.out; clear hd) | (go_at_call 70; (with_reducible refine (HC5.out _).mono ?_); rintro e w' ⟨rfl, hd⟩; obtain ⟨n5, rfl⟩ := hd.out; clear hd) | (go_at_call 48; (with_reducible refine (HC6.out _).mono ?_); rintro e w' ⟨rfl, hd⟩; obtain ⟨n6, rfl⟩ := hd.out; clear hd) | (go_at_call 48; (with_reducible refine (HC7.out _).mono ?_); rintro e w' ⟨rfl, hd⟩; obtain ⟨n7, rfl⟩ := hd.out; clear hd))
                    go_ret
                    exact ⟨rfl, by repeat (first | exact HB2.out | apply pw_below_drewN)⟩
                  | true =>
                    simp only [b4, b5, b6, b7, b8, Bool.and_true, Bool.and_false, Bool.true_and, Bool.false_and, Bool.not_true, Bool.not_false, if_true, Bool.true_eq_false, if_false, Int.reduceEq, if_pos, reduceIte] at h
                    subst h
                    have HC4 := Aside0.mk (iside_is _ _ b4)
                    have HC5 := Aside0.mk (iside_is _ _ b5)
                    have HC6 := Aside0.mk (iwithin_is _ _ _ _ b6)
                    have HC7 := Aside0.mk (iwithin_is _ _ _ _ b7)
                    clear b4 b5 b6 b7
                    go_enter Tryz.func53, Tryz.ntmps53
                    go_wp2_with (first | ((with_reducible refine gate_dst (N := 1) rfl ?_); refine box_event ?hg (N := 1) ?hd (cs := #[.int .i64 a0_0, .int .i64 3, .slice A0_2 l0_2.length c0_2, .slice A0_3 l0_3.length c0_3, .slice A0_4 l0_4.length c0_4, .int .i64 a0_5, .int .i64 a0_6, .int .i64 a0_7, .int .i64 a0_8, .slice A0_9 l0_9.length c0_9, .int .i64 a0_10, .bool a0_11]) (t := 68) ?hr ?_; (case hd => rfl); (case hg => rfl); (case hr => first | (go_simp; done) | (go_simp; rfl)); intro gb hg w2 hbox hb; have HB2 := Aside0.mk hb; have BK := Aside0.mk hbox; have k0 := (blk_cell hbox 0).trans rfl; have k1 := (blk_cell hbox 1).trans rfl; have k2 := (blk_cell hbox 2).trans rfl; have k3 := (blk_cell hbox 3).trans rfl; have k4 := (blk_cell hbox 4).trans rfl; have k5 := (blk_cell hbox 5).trans rfl; have k6 := (blk_cell hbox 6).trans rfl; have k7 := (blk_cell hbox 7).trans rfl; have k8 := (blk_cell hbox 8).trans rfl; have k9 := (blk_cell hbox 9).trans rfl; have k10 := (blk_cell hbox 10).trans rfl; have k11 := (blk_cell hbox 11).trans rfl; clear hb hbox hg) | (go_at_call 48; (with_reducible refine (HC1.out _).mono ?_); rintro e w' ⟨rfl, hd⟩; obtain ⟨n1, rfl⟩ := hd.out; clear hd) | (go_at_call 48; (with_reducible refine (HC2.out _).mono ?_); rintro e w' ⟨rfl, hd⟩; obtain ⟨n2, rfl⟩ := hd.out; clear hd) | (go_at_call 48; (with_reducible refine (HC3.out _).mono ?_); rintro e w' ⟨rfl, hd⟩; obtain ⟨n3, rfl⟩ := hd.out; clear hd) | (go_at_call 70; (with_reducible refine (HC4.out _).mono ?_); rintro e w' ⟨rfl, hd⟩; obtain ⟨n4, rfl⟩ := hd.out; clear hd) | (go_at_call 70; (with_reducible refine (HC5.out _).mono ?_); rintro e w' ⟨rfl, hd⟩; obtain ⟨n5, rfl⟩ := hd.out; clear hd) | (go_at_call 48; (with_reducible refine (HC6.out _).mono ?_); rintro e w' ⟨rfl, hd⟩; obtain ⟨n6, rfl⟩ := hd.out; clear hd) | (go_at_call 48; (with_reducible refine (HC7.out _).mono ?_); rintro e w' ⟨rfl, hd⟩; obtain ⟨n7, rfl⟩ := hd.out; clear hd))
                    go_ret
                    exact ⟨rfl, by repeat (first | exact HB2.out | apply pw_below_drewN)⟩
end Go.Proofs.YtphkionjjhhhlaaGreat.Q
end
section
namespace Go.Proofs.YtphkionjjhhhlaaGreat.Q
open Go.RowKit Go.Proofs.YtphkionjjhhhlaaGreatW.PrintWords Go.Proofs.YtphkionjjhhhlaaGreatW.PrintLast Go.Proofs.YtphkionjjhhhlaaGreatW.PrintMore
mutual
def item_unused.j0 : Nat → Bool → Int → Int → List Int → List Int → List Int → Int → Int → Int → Int → List Int → Int → Bool → Option (Bool)
  | 0, _, _, _, _, _, _, _, _, _, _, _, _, _ => none
  | k + 1, x3, x209000, x209001, x209002, x209003, x209004, x209005, x209006, x209007, x209008, x209009, x209010, x209011 => if (x209004.length : Int) = 0 then (item_unused.j1 k x3 ((x209009.length : Int) == 0) x209000 x209001 x209002 x209003 x209004 x209005 x209006 x209007 x209008 x209009 x209010 x209011) else (item_unused.j1 k x3 false x209000 x209001 x209002 x209003 x209004 x209005 x209006 x209007 x209008 x209009 x209010 x209011)
def item_unused.j1 : Nat → Bool → Bool → Int → Int → List Int → List Int → List Int → Int → Int → Int → Int → List Int → Int → Bool → Option (Bool)
  | 0, _, _, _, _, _, _, _, _, _, _, _, _, _, _ => none
  | k + 1, x3, x4, x209000, x209001, x209002, x209003, x209004, x209005, x209006, x209007, x209008, x209009, x209010, x209011 => if x209007 = 0 then (item_unused.j2 k x3 x4 (x209008 == 0) x209000 x209001 x209002 x209003 x209004 x209005 x209006 x209007 x209008 x209009 x209010 x209011) else (item_unused.j2 k x3 x4 false x209000 x209001 x209002 x209003 x209004 x209005 x209006 x209007 x209008 x209009 x209010 x209011)
def item_unused.j2 : Nat → Bool → Bool → Bool → Int → Int → List Int → List Int → List Int → Int → Int → Int → Int → List Int → Int → Bool → Option (Bool)
  | 0, _, _, _, _, _, _, _, _, _, _, _, _, _, _, _ => none
  | k + 1, x3, x4, x5, x209000, x209001, x209002, x209003, x209004, x209005, x209006, x209007, x209008, x209009, x209010, x209011 => if x209001 = 0 then (if (x209003.length : Int) = 0 then (if x3 = true then (if x4 = true then (some x5) else (some false)) else (some false)) else (some false)) else (if x209001 = 1 then (if (x209002.length : Int) = 0 then (if x3 = true then (if x4 = true then (some x5) else (some false)) else (some false)) else (some false)) else (if x209001 = 2 then (if (x209002.length : Int) = 0 then (some x3) else (some false)) else (if (x209002.length : Int) = 0 then (some x4) else (some false))))
end
def item_unused.f (k : Nat) (a0_0 : Int) (a0_1 : Int) (l0_2 : List Int) (l0_3 : List Int) (l0_4 : List Int) (a0_5 : Int) (a0_6 : Int) (a0_7 : Int) (a0_8 : Int) (l0_9 : List Int) (a0_10 : Int) (a0_11 : Bool) : Option (Bool) := if a0_5 = 0 then (item_unused.j0 k (a0_6 == 0) a0_0 a0_1 l0_2 l0_3 l0_4 a0_5 a0_6 a0_7 a0_8 l0_9 a0_10 a0_11) else (item_unused.j0 k false a0_0 a0_1 l0_2 l0_3 l0_4 a0_5 a0_6 a0_7 a0_8 l0_9 a0_10 a0_11)
set_option maxHeartbeats 8000000 in
set_option maxRecDepth 100000 in
theorem item_unused.calls (k : Nat) (a0_0 : Int) (a0_1 : Int) (A0_2 : Option Addr) (c0_2 : Nat) (l0_2 : List Int) (A0_3 : Option Addr) (c0_3 : Nat) (l0_3 : List Int) (A0_4 : Option Addr) (c0_4 : Nat) (l0_4 : List Int) (a0_5 : Int) (a0_6 : Int) (a0_7 : Int) (a0_8 : Int) (A0_9 : Option Addr) (c0_9 : Nat) (l0_9 : List Int) (a0_10 : Int) (a0_11 : Bool) (r : Bool) (w : World) (hr0_2 : Kd.C (Kd.int .u8) w A0_2 l0_2.length l0_2) (hc0_2 : l0_2.length ≤ c0_2) (hr0_3 : Kd.C (Kd.int .i64) w A0_3 l0_3.length l0_3) (hc0_3 : l0_3.length ≤ c0_3) (hr0_4 : Kd.C (Kd.int .i64) w A0_4 l0_4.length l0_4) (hc0_4 : l0_4.length ≤ c0_4) (hr0_9 : Kd.C (Kd.int .i64) w A0_9 l0_9.length l0_9) (hc0_9 : l0_9.length ≤ c0_9) (h : item_unused.f k a0_0 a0_1 l0_2 l0_3 l0_4 a0_5 a0_6 a0_7 a0_8 l0_9 a0_10 a0_11 = some r) :
    Calls Tryz.prog 54 #[.agg #[.int .i64 a0_0, .int .i64 a0_1, .slice A0_2 l0_2.length c0_2, .slice A0_3 l0_3.length c0_3, .slice A0_4 l0_4.length c0_4, .int .i64 a0_5, .int .i64 a0_6, .int .i64 a0_7, .int .i64 a0_8, .slice A0_9 l0_9.length c0_9, .int .i64 a0_10, .bool a0_11]] w fun e w' => e = .returned (.bool r) ∧ Below w.heap.size w w' := by
  have hu68 := Tryz.underlying68
  have HR0_2 := Aside0.mk hr0_2
  have HC0_2 := Aside0.mk hc0_2
  clear hr0_2 hc0_2
  have HR0_3 := Aside0.mk hr0_3
  have HC0_3 := Aside0.mk hc0_3
  clear hr0_3 hc0_3
  have HR0_4 := Aside0.mk hr0_4
  have HC0_4 := Aside0.mk hc0_4
  clear hr0_4 hc0_4
  have HR0_9 := Aside0.mk hr0_9
  have HC0_9 := Aside0.mk hc0_9
  clear hr0_9 hc0_9
  have HB := Aside0.mk (Below.refl w.heap.size w)
  have H : (if a0_5 = 0 then (item_unused.j0 k (a0_6 == 0) a0_0 a0_1 l0_2 l0_3 l0_4 a0_5 a0_6 a0_7 a0_8 l0_9 a0_10 a0_11) else (item_unused.j0 k false a0_0 a0_1 l0_2 l0_3 l0_4 a0_5 a0_6 a0_7 a0_8 l0_9 a0_10 a0_11)) = some r := h
  clear h
  have HC2 := Aside0.mk H
  clear H
  go_enter Tryz.func54, Tryz.ntmps54
  go_upto_region 1 with (first | ((with_reducible refine gate_dst (N := 1) rfl ?_); (try (refine gate_guard (by rfl) ?_; dsimp only)); refine box_event ?hg (N := 1) ?hd (cs := #[.int .i64 a0_0, .int .i64 a0_1, .slice A0_2 l0_2.length c0_2, .slice A0_3 l0_3.length c0_3, .slice A0_4 l0_4.length c0_4, .int .i64 a0_5, .int .i64 a0_6, .int .i64 a0_7, .int .i64 a0_8, .slice A0_9 l0_9.length c0_9, .int .i64 a0_10, .bool a0_11]) (t := 68) ?hr ?_; (case hd => rfl); (case hg => rfl); (case hr => first | (go_simp; done) | (go_simp; rfl)); intro gb208 hg w3 hbox hb; have n0_ := Aside0.mk (below_step (by repeat (first | (with_reducible first | exact HB.out | apply below_alloc | apply pw_below_drewN | apply below_drew1) | exact HB.out)) hb); have n1_ := Aside0.mk (hbox); have n2_ := Aside0.mk ((by rw [hg]; exact (below_size (by repeat (first | (with_reducible first | exact HB.out | apply below_alloc | apply pw_below_drewN | apply below_drew1) | exact HB.out))) : w.heap.size ≤ gb208)); have n3_ := Aside0.mk ((by rw [hg]; exact (below_size (by repeat (first | (with_reducible first | exact HB.out | apply below_alloc | apply pw_below_drewN | apply below_drew1) | exact HB.out))) : w.heap.size ≤ gb208)); clear HB; have HB := n0_; have BK208 := n1_; have GW208 := n2_; have GE208 := n3_; clear n0_ n1_ n2_ n3_; clear hb hbox hg))
  (try simp only [Act.put, List.setIfInBounds_toArray, List.set_cons_zero, List.set_cons_succ])
  go_cut [3] (fun v3 wc => ∃ (kq : Nat) (x3_1 : Bool), v3 = .bool x3_1 ∧ Aside0 (item_unused.j0 kq x3_1 a0_0 a0_1 l0_2 l0_3 l0_4 a0_5 a0_6 a0_7 a0_8 l0_9 a0_10 a0_11 = some r) ∧ Aside0 (kq ≤ k) ∧ Aside0 (wc.heap[gb208]? = some (.cells #[.int .i64 a0_0, .int .i64 a0_1, (.slice A0_2 l0_2.length c0_2), (.slice A0_3 l0_3.length c0_3), (.slice A0_4 l0_4.length c0_4), .int .i64 a0_5, .int .i64 a0_6, .int .i64 a0_7, .int .i64 a0_8, (.slice A0_9 l0_9.length c0_9), .int .i64 a0_10, .bool a0_11] 68 (0, 0))) ∧ Aside0 (Below w.heap.size w wc))
  case first =>
    have H := HC2.out
    clear HC2
    by_cases c4 : a0_5 = 0
    · rw [if_pos c4] at H
      have c4b0 : (a0_5 == 0) = true := beq_iff_eq.mpr c4
      have c4b1 : (a0_5 != 0) = false := bne_eq_false_iff_eq.mpr c4
      clear c4
      (first | rw [c4b0] | (simp only [i64_w, i32_w]; rw [c4b0]) | skip)
      have H' := Aside0.mk H
      clear H
      have hcz5_0 : w3.cell? ⟨gb208, 0, none⟩ = some (.int .i64 a0_0) := (blk_cell BK208.out 0).trans rfl
      have hcz5_1 : w3.cell? ⟨gb208, 1, none⟩ = some (.int .i64 a0_1) := (blk_cell BK208.out 1).trans rfl
      have hcz5_2 : w3.cell? ⟨gb208, 2, none⟩ = some (.slice A0_2 l0_2.length c0_2) := (blk_cell BK208.out 2).trans rfl
      have hcz5_3 : w3.cell? ⟨gb208, 3, none⟩ = some (.slice A0_3 l0_3.length c0_3) := (blk_cell BK208.out 3).trans rfl
      have hcz5_4 : w3.cell? ⟨gb208, 4, none⟩ = some (.slice A0_4 l0_4.length c0_4) := (blk_cell BK208.out 4).trans rfl
      have hcz5_5 : w3.cell? ⟨gb208, 5, none⟩ = some (.int .i64 a0_5) := (blk_cell BK208.out 5).trans rfl
      have hcz5_6 : w3.cell? ⟨gb208, 6, none⟩ = some (.int .i64 a0_6) := (blk_cell BK208.out 6).trans rfl
      have hcz5_7 : w3.cell? ⟨gb208, 7, none⟩ = some (.int .i64 a0_7) := (blk_cell BK208.out 7).trans rfl
      have hcz5_8 : w3.cell? ⟨gb208, 8, none⟩ = some (.int .i64 a0_8) := (blk_cell BK208.out 8).trans rfl
      have hcz5_9 : w3.cell? ⟨gb208, 9, none⟩ = some (.slice A0_9 l0_9.length c0_9) := (blk_cell BK208.out 9).trans rfl
      have hcz5_10 : w3.cell? ⟨gb208, 10, none⟩ = some (.int .i64 a0_10) := (blk_cell BK208.out 10).trans rfl
      have hcz5_11 : w3.cell? ⟨gb208, 11, none⟩ = some (.bool a0_11) := (blk_cell BK208.out 11).trans rfl
      have hfz5_0 := blk_frozen BK208.out 0
      have hfz5_1 := blk_frozen BK208.out 1
      have hfz5_2 := blk_frozen BK208.out 2
      have hfz5_3 := blk_frozen BK208.out 3
      have hfz5_4 := blk_frozen BK208.out 4
      have hfz5_5 := blk_frozen BK208.out 5
      have hfz5_6 := blk_frozen BK208.out 6
      have hfz5_7 := blk_frozen BK208.out 7
      have hfz5_8 := blk_frozen BK208.out 8
      have hfz5_9 := blk_frozen BK208.out 9
      have hfz5_10 := blk_frozen BK208.out 10
      have hfz5_11 := blk_frozen BK208.out 11
      go_wp2
      go_meet
      case rel => exact ⟨_, ((a0_6 == 0)), (by first | rfl | (simp; done) | (simp [*]; done)), H', ⟨by first | omega | exact Nat.le_refl _⟩, ⟨by (with_reducible repeat (first | refine blk_drewN ?_ _ | refine blk_drew ?_ | refine blk_alloc ?_ _)); exact BK208.out⟩, ⟨by repeat (first | (with_reducible first | exact HB.out | apply below_alloc | apply pw_below_drewN | apply below_drew1 | refine below_set ?_ GE208.out) | exact HB.out)⟩⟩
    · rw [if_neg c4] at H
      have c4b0 : (a0_5 == 0) = false := beq_eq_false_iff_ne.mpr c4
      have c4b1 : (a0_5 != 0) = true := bne_iff_ne.mpr c4
      (first | rw [c4b0] | (simp only [i64_w, i32_w]; rw [c4b0]) | skip)
      have H' := Aside0.mk H
      clear H
      have hcz6_0 : w3.cell? ⟨gb208, 0, none⟩ = some (.int .i64 a0_0) := (blk_cell BK208.out 0).trans rfl
      have hcz6_1 : w3.cell? ⟨gb208, 1, none⟩ = some (.int .i64 a0_1) := (blk_cell BK208.out 1).trans rfl
      have hcz6_2 : w3.cell? ⟨gb208, 2, none⟩ = some (.slice A0_2 l0_2.length c0_2) := (blk_cell BK208.out 2).trans rfl
      have hcz6_3 : w3.cell? ⟨gb208, 3, none⟩ = some (.slice A0_3 l0_3.length c0_3) := (blk_cell BK208.out 3).trans rfl
      have hcz6_4 : w3.cell? ⟨gb208, 4, none⟩ = some (.slice A0_4 l0_4.length c0_4) := (blk_cell BK208.out 4).trans rfl
      have hcz6_5 : w3.cell? ⟨gb208, 5, none⟩ = some (.int .i64 a0_5) := (blk_cell BK208.out 5).trans rfl
      have hcz6_6 : w3.cell? ⟨gb208, 6, none⟩ = some (.int .i64 a0_6) := (blk_cell BK208.out 6).trans rfl
      have hcz6_7 : w3.cell? ⟨gb208, 7, none⟩ = some (.int .i64 a0_7) := (blk_cell BK208.out 7).trans rfl
      have hcz6_8 : w3.cell? ⟨gb208, 8, none⟩ = some (.int .i64 a0_8) := (blk_cell BK208.out 8).trans rfl
      have hcz6_9 : w3.cell? ⟨gb208, 9, none⟩ = some (.slice A0_9 l0_9.length c0_9) := (blk_cell BK208.out 9).trans rfl
      have hcz6_10 : w3.cell? ⟨gb208, 10, none⟩ = some (.int .i64 a0_10) := (blk_cell BK208.out 10).trans rfl
      have hcz6_11 : w3.cell? ⟨gb208, 11, none⟩ = some (.bool a0_11) := (blk_cell BK208.out 11).trans rfl
      have hfz6_0 := blk_frozen BK208.out 0
      have hfz6_1 := blk_frozen BK208.out 1
      have hfz6_2 := blk_frozen BK208.out 2
      have hfz6_3 := blk_frozen BK208.out 3
      have hfz6_4 := blk_frozen BK208.out 4
      have hfz6_5 := blk_frozen BK208.out 5
      have hfz6_6 := blk_frozen BK208.out 6
      have hfz6_7 := blk_frozen BK208.out 7
      have hfz6_8 := blk_frozen BK208.out 8
      have hfz6_9 := blk_frozen BK208.out 9
      have hfz6_10 := blk_frozen BK208.out 10
      have hfz6_11 := blk_frozen BK208.out 11
      go_wp2
      go_meet
      case rel => exact ⟨_, (false), (by first | rfl | (simp; done) | (simp [*]; done)), H', ⟨by first | omega | exact Nat.le_refl _⟩, ⟨by (with_reducible repeat (first | refine blk_drewN ?_ _ | refine blk_drew ?_ | refine blk_alloc ?_ _)); exact BK208.out⟩, ⟨by repeat (first | (with_reducible first | exact HB.out | apply below_alloc | apply pw_below_drewN | apply below_drew1 | refine below_set ?_ GE208.out) | exact HB.out)⟩⟩
  case rest =>
    clear HC2
    try clear p2
    try clear c4
    try clear c4b0
    try clear c4b1
    try clear c5
    try clear hcz5_0
    try clear hcz5_1
    try clear hcz5_10
    try clear hcz5_11
    try clear hcz5_2
    try clear hcz5_3
    try clear hcz5_4
    try clear hcz5_5
    try clear hcz5_6
    try clear hcz5_7
    try clear hcz5_8
    try clear hcz5_9
    try clear hcz6_0
    try clear hcz6_1
    try clear hcz6_10
    try clear hcz6_11
    try clear hcz6_2
    try clear hcz6_3
    try clear hcz6_4
    try clear hcz6_5
    try clear hcz6_6
    try clear hcz6_7
    try clear hcz6_8
    try clear hcz6_9
    try clear hfz5_0
    try clear hfz5_1
    try clear hfz5_10
    try clear hfz5_11
    try clear hfz5_2
    try clear hfz5_3
    try clear hfz5_4
    try clear hfz5_5
    try clear hfz5_6
    try clear hfz5_7
    try clear hfz5_8
    try clear hfz5_9
    try clear hfz6_0
    try clear hfz6_1
    try clear hfz6_10
    try clear hfz6_11
    try clear hfz6_2
    try clear hfz6_3
    try clear hfz6_4
    try clear hfz6_5
    try clear hfz6_6
    try clear hfz6_7
    try clear hfz6_8
    try clear hfz6_9
    obtain ⟨kq, x3_1, rfl, HA, HJ1, BK208, HB⟩ := hcut
    cases kq with
    | zero => exact absurd HA.out (by simp [item_unused.j0])
    | succ kj1 =>
      have H := HA.out
      clear HA
      simp only [item_unused.j0] at H
      have HC7 := Aside0.mk H
      clear H
      go_upto_region 2 with (fail)
      go_cut [4] (fun v4 wc => ∃ (kq : Nat) (x4_6 : Bool), v4 = .bool x4_6 ∧ Aside0 (item_unused.j1 kq x3_1 x4_6 a0_0 a0_1 l0_2 l0_3 l0_4 a0_5 a0_6 a0_7 a0_8 l0_9 a0_10 a0_11 = some r) ∧ Aside0 (kq ≤ kj1) ∧ Aside0 (wc.heap[gb208]? = some (.cells #[.int .i64 a0_0, .int .i64 a0_1, (.slice A0_2 l0_2.length c0_2), (.slice A0_3 l0_3.length c0_3), (.slice A0_4 l0_4.length c0_4), .int .i64 a0_5, .int .i64 a0_6, .int .i64 a0_7, .int .i64 a0_8, (.slice A0_9 l0_9.length c0_9), .int .i64 a0_10, .bool a0_11] 68 (0, 0))) ∧ Aside0 (Below w.heap.size w wc))
      case first =>
        have H := HC7.out
        clear HC7
        by_cases c8 : (l0_4.length : Int) = 0
        · rw [if_pos c8] at H
          have c8b0 : ((l0_4.length : Int) == 0) = true := beq_iff_eq.mpr c8
          have c8b1 : ((l0_4.length : Int) != 0) = false := bne_eq_false_iff_eq.mpr c8
          clear c8
          (first | rw [c8b0] | (simp only [i64_w, i32_w]; rw [c8b0]) | skip)
          have H' := Aside0.mk H
          clear H
          have hcz9_0 : wc.cell? ⟨gb208, 0, none⟩ = some (.int .i64 a0_0) := (blk_cell BK208.out 0).trans rfl
          have hcz9_1 : wc.cell? ⟨gb208, 1, none⟩ = some (.int .i64 a0_1) := (blk_cell BK208.out 1).trans rfl
          have hcz9_2 : wc.cell? ⟨gb208, 2, none⟩ = some (.slice A0_2 l0_2.length c0_2) := (blk_cell BK208.out 2).trans rfl
          have hcz9_3 : wc.cell? ⟨gb208, 3, none⟩ = some (.slice A0_3 l0_3.length c0_3) := (blk_cell BK208.out 3).trans rfl
          have hcz9_4 : wc.cell? ⟨gb208, 4, none⟩ = some (.slice A0_4 l0_4.length c0_4) := (blk_cell BK208.out 4).trans rfl
          have hcz9_5 : wc.cell? ⟨gb208, 5, none⟩ = some (.int .i64 a0_5) := (blk_cell BK208.out 5).trans rfl
          have hcz9_6 : wc.cell? ⟨gb208, 6, none⟩ = some (.int .i64 a0_6) := (blk_cell BK208.out 6).trans rfl
          have hcz9_7 : wc.cell? ⟨gb208, 7, none⟩ = some (.int .i64 a0_7) := (blk_cell BK208.out 7).trans rfl
          have hcz9_8 : wc.cell? ⟨gb208, 8, none⟩ = some (.int .i64 a0_8) := (blk_cell BK208.out 8).trans rfl
          have hcz9_9 : wc.cell? ⟨gb208, 9, none⟩ = some (.slice A0_9 l0_9.length c0_9) := (blk_cell BK208.out 9).trans rfl
          have hcz9_10 : wc.cell? ⟨gb208, 10, none⟩ = some (.int .i64 a0_10) := (blk_cell BK208.out 10).trans rfl
          have hcz9_11 : wc.cell? ⟨gb208, 11, none⟩ = some (.bool a0_11) := (blk_cell BK208.out 11).trans rfl
          have hfz9_0 := blk_frozen BK208.out 0
          have hfz9_1 := blk_frozen BK208.out 1
          have hfz9_2 := blk_frozen BK208.out 2
          have hfz9_3 := blk_frozen BK208.out 3
          have hfz9_4 := blk_frozen BK208.out 4
          have hfz9_5 := blk_frozen BK208.out 5
          have hfz9_6 := blk_frozen BK208.out 6
          have hfz9_7 := blk_frozen BK208.out 7
          have hfz9_8 := blk_frozen BK208.out 8
          have hfz9_9 := blk_frozen BK208.out 9
          have hfz9_10 := blk_frozen BK208.out 10
          have hfz9_11 := blk_frozen BK208.out 11
          go_wp2
          go_meet
          case rel => exact ⟨_, (((l0_9.length : Int) == 0)), (by first | rfl | (simp; done) | (simp [*]; done)), H', ⟨by have := HJ1.out; first | omega | exact Nat.le_refl _⟩, ⟨by (with_reducible repeat (first | refine blk_drewN ?_ _ | refine blk_drew ?_ | refine blk_alloc ?_ _)); exact BK208.out⟩, ⟨by repeat (first | (with_reducible first | exact HB.out | apply below_alloc | apply pw_below_drewN | apply below_drew1 | refine below_set ?_ GE208.out) | exact HB.out)⟩⟩
        · rw [if_neg c8] at H
          have c8b0 : ((l0_4.length : Int) == 0) = false := beq_eq_false_iff_ne.mpr c8
          have c8b1 : ((l0_4.length : Int) != 0) = true := bne_iff_ne.mpr c8
          have c8b2 : ¬ (l0_4 = []) := fun h_ => c8 (by rw [h_]; rfl)
          (first | rw [c8b0] | (simp only [i64_w, i32_w]; rw [c8b0]) | skip)
          have H' := Aside0.mk H
          clear H
          have hcz10_0 : wc.cell? ⟨gb208, 0, none⟩ = some (.int .i64 a0_0) := (blk_cell BK208.out 0).trans rfl
          have hcz10_1 : wc.cell? ⟨gb208, 1, none⟩ = some (.int .i64 a0_1) := (blk_cell BK208.out 1).trans rfl
          have hcz10_2 : wc.cell? ⟨gb208, 2, none⟩ = some (.slice A0_2 l0_2.length c0_2) := (blk_cell BK208.out 2).trans rfl
          have hcz10_3 : wc.cell? ⟨gb208, 3, none⟩ = some (.slice A0_3 l0_3.length c0_3) := (blk_cell BK208.out 3).trans rfl
          have hcz10_4 : wc.cell? ⟨gb208, 4, none⟩ = some (.slice A0_4 l0_4.length c0_4) := (blk_cell BK208.out 4).trans rfl
          have hcz10_5 : wc.cell? ⟨gb208, 5, none⟩ = some (.int .i64 a0_5) := (blk_cell BK208.out 5).trans rfl
          have hcz10_6 : wc.cell? ⟨gb208, 6, none⟩ = some (.int .i64 a0_6) := (blk_cell BK208.out 6).trans rfl
          have hcz10_7 : wc.cell? ⟨gb208, 7, none⟩ = some (.int .i64 a0_7) := (blk_cell BK208.out 7).trans rfl
          have hcz10_8 : wc.cell? ⟨gb208, 8, none⟩ = some (.int .i64 a0_8) := (blk_cell BK208.out 8).trans rfl
          have hcz10_9 : wc.cell? ⟨gb208, 9, none⟩ = some (.slice A0_9 l0_9.length c0_9) := (blk_cell BK208.out 9).trans rfl
          have hcz10_10 : wc.cell? ⟨gb208, 10, none⟩ = some (.int .i64 a0_10) := (blk_cell BK208.out 10).trans rfl
          have hcz10_11 : wc.cell? ⟨gb208, 11, none⟩ = some (.bool a0_11) := (blk_cell BK208.out 11).trans rfl
          have hfz10_0 := blk_frozen BK208.out 0
          have hfz10_1 := blk_frozen BK208.out 1
          have hfz10_2 := blk_frozen BK208.out 2
          have hfz10_3 := blk_frozen BK208.out 3
          have hfz10_4 := blk_frozen BK208.out 4
          have hfz10_5 := blk_frozen BK208.out 5
          have hfz10_6 := blk_frozen BK208.out 6
          have hfz10_7 := blk_frozen BK208.out 7
          have hfz10_8 := blk_frozen BK208.out 8
          have hfz10_9 := blk_frozen BK208.out 9
          have hfz10_10 := blk_frozen BK208.out 10
          have hfz10_11 := blk_frozen BK208.out 11
          go_wp2
          go_meet
          case rel => exact ⟨_, (false), (by first | rfl | (simp; done) | (simp [*]; done)), H', ⟨by have := HJ1.out; first | omega | exact Nat.le_refl _⟩, ⟨by (with_reducible repeat (first | refine blk_drewN ?_ _ | refine blk_drew ?_ | refine blk_alloc ?_ _)); exact BK208.out⟩, ⟨by repeat (first | (with_reducible first | exact HB.out | apply below_alloc | apply pw_below_drewN | apply below_drew1 | refine below_set ?_ GE208.out) | exact HB.out)⟩⟩
      case rest =>
        clear HC7
        try clear p2
        try clear c4
        try clear c4b0
        try clear c4b1
        try clear c5
        try clear c8
        try clear c8b0
        try clear c8b1
        try clear c8b2
        try clear hcz10_0
        try clear hcz10_1
        try clear hcz10_10
        try clear hcz10_11
        try clear hcz10_2
        try clear hcz10_3
        try clear hcz10_4
        try clear hcz10_5
        try clear hcz10_6
        try clear hcz10_7
        try clear hcz10_8
        try clear hcz10_9
        try clear hcz5_0
        try clear hcz5_1
        try clear hcz5_10
        try clear hcz5_11
        try clear hcz5_2
        try clear hcz5_3
        try clear hcz5_4
        try clear hcz5_5
        try clear hcz5_6
        try clear hcz5_7
        try clear hcz5_8
        try clear hcz5_9
        try clear hcz6_0
        try clear hcz6_1
        try clear hcz6_10
        try clear hcz6_11
        try clear hcz6_2
        try clear hcz6_3
        try clear hcz6_4
        try clear hcz6_5
        try clear hcz6_6
        try clear hcz6_7
        try clear hcz6_8
        try clear hcz6_9
        try clear hcz9_0
        try clear hcz9_1
        try clear hcz9_10
        try clear hcz9_11
        try clear hcz9_2
        try clear hcz9_3
        try clear hcz9_4
        try clear hcz9_5
        try clear hcz9_6
        try clear hcz9_7
        try clear hcz9_8
        try clear hcz9_9
        try clear hfz10_0
        try clear hfz10_1
        try clear hfz10_10
        try clear hfz10_11
        try clear hfz10_2
        try clear hfz10_3
        try clear hfz10_4
        try clear hfz10_5
        try clear hfz10_6
        try clear hfz10_7
        try clear hfz10_8
        try clear hfz10_9
        try clear hfz5_0
        try clear hfz5_1
        try clear hfz5_10
        try clear hfz5_11
        try clear hfz5_2
        try clear hfz5_3
        try clear hfz5_4
        try clear hfz5_5
        try clear hfz5_6
        try clear hfz5_7
        try clear hfz5_8
        try clear hfz5_9
        try clear hfz6_0
        try clear hfz6_1
        try clear hfz6_10
        try clear hfz6_11
        try clear hfz6_2
        try clear hfz6_3
        try clear hfz6_4
        try clear hfz6_5
        try clear hfz6_6
        try clear hfz6_7
        try clear hfz6_8
        try clear hfz6_9
        try clear hfz9_0
        try clear hfz9_1
        try clear hfz9_10
        try clear hfz9_11
        try clear hfz9_2
        try clear hfz9_3
        try clear hfz9_4
        try clear hfz9_5
        try clear hfz9_6
        try clear hfz9_7
        try clear hfz9_8
        try clear hfz9_9
        try clear p2
        obtain ⟨kq, x4_6, rfl, HA, HJ6, BK208, HB⟩ := hcut
        cases kq with
        | zero => exact absurd HA.out (by simp [item_unused.j1])
        | succ kj6 =>
          have H := HA.out
          clear HA
          simp only [item_unused.j1] at H
          have HC11 := Aside0.mk H
          clear H
          go_upto_region 3 with (fail)
          go_cut [5] (fun v5 wc => ∃ (kq : Nat) (x5_10 : Bool), v5 = .bool x5_10 ∧ Aside0 (item_unused.j2 kq x3_1 x4_6 x5_10 a0_0 a0_1 l0_2 l0_3 l0_4 a0_5 a0_6 a0_7 a0_8 l0_9 a0_10 a0_11 = some r) ∧ Aside0 (kq ≤ kj6) ∧ Aside0 (wc.heap[gb208]? = some (.cells #[.int .i64 a0_0, .int .i64 a0_1, (.slice A0_2 l0_2.length c0_2), (.slice A0_3 l0_3.length c0_3), (.slice A0_4 l0_4.length c0_4), .int .i64 a0_5, .int .i64 a0_6, .int .i64 a0_7, .int .i64 a0_8, (.slice A0_9 l0_9.length c0_9), .int .i64 a0_10, .bool a0_11] 68 (0, 0))) ∧ Aside0 (Below w.heap.size w wc))
          case first =>
            have H := HC11.out
            clear HC11
            by_cases c12 : a0_7 = 0
            · rw [if_pos c12] at H
              have c12b0 : (a0_7 == 0) = true := beq_iff_eq.mpr c12
              have c12b1 : (a0_7 != 0) = false := bne_eq_false_iff_eq.mpr c12
              clear c12
              (first | rw [c12b0] | (simp only [i64_w, i32_w]; rw [c12b0]) | skip)
              have H' := Aside0.mk H
              clear H
              have hcz13_0 : wc.cell? ⟨gb208, 0, none⟩ = some (.int .i64 a0_0) := (blk_cell BK208.out 0).trans rfl
              have hcz13_1 : wc.cell? ⟨gb208, 1, none⟩ = some (.int .i64 a0_1) := (blk_cell BK208.out 1).trans rfl
              have hcz13_2 : wc.cell? ⟨gb208, 2, none⟩ = some (.slice A0_2 l0_2.length c0_2) := (blk_cell BK208.out 2).trans rfl
              have hcz13_3 : wc.cell? ⟨gb208, 3, none⟩ = some (.slice A0_3 l0_3.length c0_3) := (blk_cell BK208.out 3).trans rfl
              have hcz13_4 : wc.cell? ⟨gb208, 4, none⟩ = some (.slice A0_4 l0_4.length c0_4) := (blk_cell BK208.out 4).trans rfl
              have hcz13_5 : wc.cell? ⟨gb208, 5, none⟩ = some (.int .i64 a0_5) := (blk_cell BK208.out 5).trans rfl
              have hcz13_6 : wc.cell? ⟨gb208, 6, none⟩ = some (.int .i64 a0_6) := (blk_cell BK208.out 6).trans rfl
              have hcz13_7 : wc.cell? ⟨gb208, 7, none⟩ = some (.int .i64 a0_7) := (blk_cell BK208.out 7).trans rfl
              have hcz13_8 : wc.cell? ⟨gb208, 8, none⟩ = some (.int .i64 a0_8) := (blk_cell BK208.out 8).trans rfl
              have hcz13_9 : wc.cell? ⟨gb208, 9, none⟩ = some (.slice A0_9 l0_9.length c0_9) := (blk_cell BK208.out 9).trans rfl
              have hcz13_10 : wc.cell? ⟨gb208, 10, none⟩ = some (.int .i64 a0_10) := (blk_cell BK208.out 10).trans rfl
              have hcz13_11 : wc.cell? ⟨gb208, 11, none⟩ = some (.bool a0_11) := (blk_cell BK208.out 11).trans rfl
              have hfz13_0 := blk_frozen BK208.out 0
              have hfz13_1 := blk_frozen BK208.out 1
              have hfz13_2 := blk_frozen BK208.out 2
              have hfz13_3 := blk_frozen BK208.out 3
              have hfz13_4 := blk_frozen BK208.out 4
              have hfz13_5 := blk_frozen BK208.out 5
              have hfz13_6 := blk_frozen BK208.out 6
              have hfz13_7 := blk_frozen BK208.out 7
              have hfz13_8 := blk_frozen BK208.out 8
              have hfz13_9 := blk_frozen BK208.out 9
              have hfz13_10 := blk_frozen BK208.out 10
              have hfz13_11 := blk_frozen BK208.out 11
              go_wp2
              go_meet
              case rel => exact ⟨_, ((a0_8 == 0)), (by first | rfl | (simp; done) | (simp [*]; done)), H', ⟨by have := HJ1.out; have := HJ6.out; first | omega | exact Nat.le_refl _⟩, ⟨by (with_reducible repeat (first | refine blk_drewN ?_ _ | refine blk_drew ?_ | refine blk_alloc ?_ _)); exact BK208.out⟩, ⟨by repeat (first | (with_reducible first | exact HB.out | apply below_alloc | apply pw_below_drewN | apply below_drew1 | refine below_set ?_ GE208.out) | exact HB.out)⟩⟩
            · rw [if_neg c12] at H
              have c12b0 : (a0_7 == 0) = false := beq_eq_false_iff_ne.mpr c12
              have c12b1 : (a0_7 != 0) = true := bne_iff_ne.mpr c12
              (first | rw [c12b0] | (simp only [i64_w, i32_w]; rw [c12b0]) | skip)
              have H' := Aside0.mk H
              clear H
              have hcz14_0 : wc.cell? ⟨gb208, 0, none⟩ = some (.int .i64 a0_0) := (blk_cell BK208.out 0).trans rfl
              have hcz14_1 : wc.cell? ⟨gb208, 1, none⟩ = some (.int .i64 a0_1) := (blk_cell BK208.out 1).trans rfl
              have hcz14_2 : wc.cell? ⟨gb208, 2, none⟩ = some (.slice A0_2 l0_2.length c0_2) := (blk_cell BK208.out 2).trans rfl
              have hcz14_3 : wc.cell? ⟨gb208, 3, none⟩ = some (.slice A0_3 l0_3.length c0_3) := (blk_cell BK208.out 3).trans rfl
              have hcz14_4 : wc.cell? ⟨gb208, 4, none⟩ = some (.slice A0_4 l0_4.length c0_4) := (blk_cell BK208.out 4).trans rfl
              have hcz14_5 : wc.cell? ⟨gb208, 5, none⟩ = some (.int .i64 a0_5) := (blk_cell BK208.out 5).trans rfl
              have hcz14_6 : wc.cell? ⟨gb208, 6, none⟩ = some (.int .i64 a0_6) := (blk_cell BK208.out 6).trans rfl
              have hcz14_7 : wc.cell? ⟨gb208, 7, none⟩ = some (.int .i64 a0_7) := (blk_cell BK208.out 7).trans rfl
              have hcz14_8 : wc.cell? ⟨gb208, 8, none⟩ = some (.int .i64 a0_8) := (blk_cell BK208.out 8).trans rfl
              have hcz14_9 : wc.cell? ⟨gb208, 9, none⟩ = some (.slice A0_9 l0_9.length c0_9) := (blk_cell BK208.out 9).trans rfl
              have hcz14_10 : wc.cell? ⟨gb208, 10, none⟩ = some (.int .i64 a0_10) := (blk_cell BK208.out 10).trans rfl
              have hcz14_11 : wc.cell? ⟨gb208, 11, none⟩ = some (.bool a0_11) := (blk_cell BK208.out 11).trans rfl
              have hfz14_0 := blk_frozen BK208.out 0
              have hfz14_1 := blk_frozen BK208.out 1
              have hfz14_2 := blk_frozen BK208.out 2
              have hfz14_3 := blk_frozen BK208.out 3
              have hfz14_4 := blk_frozen BK208.out 4
              have hfz14_5 := blk_frozen BK208.out 5
              have hfz14_6 := blk_frozen BK208.out 6
              have hfz14_7 := blk_frozen BK208.out 7
              have hfz14_8 := blk_frozen BK208.out 8
              have hfz14_9 := blk_frozen BK208.out 9
              have hfz14_10 := blk_frozen BK208.out 10
              have hfz14_11 := blk_frozen BK208.out 11
              go_wp2
              go_meet
              case rel => exact ⟨_, (false), (by first | rfl | (simp; done) | (simp [*]; done)), H', ⟨by have := HJ1.out; have := HJ6.out; first | omega | exact Nat.le_refl _⟩, ⟨by (with_reducible repeat (first | refine blk_drewN ?_ _ | refine blk_drew ?_ | refine blk_alloc ?_ _)); exact BK208.out⟩, ⟨by repeat (first | (with_reducible first | exact HB.out | apply below_alloc | apply pw_below_drewN | apply below_drew1 | refine below_set ?_ GE208.out) | exact HB.out)⟩⟩
          case rest =>
            clear HC11
            try clear c1
            try clear p2
            try clear c4
            try clear c4b0
            try clear c4b1
            try clear c5
            try clear c8
            try clear c8b0
            try clear c8b1
            try clear c8b2
            try clear c12
            try clear c12b0
            try clear c12b1
            try clear hcz10_0
            try clear hcz10_1
            try clear hcz10_10
            try clear hcz10_11
            try clear hcz10_2
            try clear hcz10_3
            try clear hcz10_4
            try clear hcz10_5
            try clear hcz10_6
            try clear hcz10_7
            try clear hcz10_8
            try clear hcz10_9
            try clear hcz13_0
            try clear hcz13_1
            try clear hcz13_10
            try clear hcz13_11
            try clear hcz13_2
            try clear hcz13_3
            try clear hcz13_4
            try clear hcz13_5
            try clear hcz13_6
            try clear hcz13_7
            try clear hcz13_8
            try clear hcz13_9
            try clear hcz14_0
            try clear hcz14_1
            try clear hcz14_10
            try clear hcz14_11
            try clear hcz14_2
            try clear hcz14_3
            try clear hcz14_4
            try clear hcz14_5
            try clear hcz14_6
            try clear hcz14_7
            try clear hcz14_8
            try clear hcz14_9
            try clear hcz5_0
            try clear hcz5_1
            try clear hcz5_10
            try clear hcz5_11
            try clear hcz5_2
            try clear hcz5_3
            try clear hcz5_4
            try clear hcz5_5
            try clear hcz5_6
            try clear hcz5_7
            try clear hcz5_8
            try clear hcz5_9
            try clear hcz6_0
            try clear hcz6_1
            try clear hcz6_10
            try clear hcz6_11
            try clear hcz6_2
            try clear hcz6_3
            try clear hcz6_4
            try clear hcz6_5
            try clear hcz6_6
            try clear hcz6_7
            try clear hcz6_8
            try clear hcz6_9
            try clear hcz9_0
            try clear hcz9_1
            try clear hcz9_10
            try clear hcz9_11
            try clear hcz9_2
            try clear hcz9_3
            try clear hcz9_4
            try clear hcz9_5
            try clear hcz9_6
            try clear hcz9_7
            try clear hcz9_8
            try clear hcz9_9
            try clear hfz10_0
            try clear hfz10_1
            try clear hfz10_10
            try clear hfz10_11
            try clear hfz10_2
            try clear hfz10_3
            try clear hfz10_4
            try clear hfz10_5
            try clear hfz10_6
            try clear hfz10_7
            try clear hfz10_8
            try clear hfz10_9
            try clear hfz13_0
            try clear hfz13_1
            try clear hfz13_10
            try clear hfz13_11
            try clear hfz13_2
            try clear hfz13_3
            try clear hfz13_4
            try clear hfz13_5
            try clear hfz13_6
            try clear hfz13_7
            try clear hfz13_8
            try clear hfz13_9
            try clear hfz14_0
            try clear hfz14_1
            try clear hfz14_10
            try clear hfz14_11
            try clear hfz14_2
            try clear hfz14_3
            try clear hfz14_4
            try clear hfz14_5
            try clear hfz14_6
            try clear hfz14_7
            try clear hfz14_8
            try clear hfz14_9
            try clear hfz5_0
            try clear hfz5_1
            try clear hfz5_10
            try clear hfz5_11
            try clear hfz5_2
            try clear hfz5_3
            try clear hfz5_4
            try clear hfz5_5
            try clear hfz5_6
            try clear hfz5_7
            try clear hfz5_8
            try clear hfz5_9
            try clear hfz6_0
            try clear hfz6_1
            try clear hfz6_10
            try clear hfz6_11
            try clear hfz6_2
            try clear hfz6_3
            try clear hfz6_4
            try clear hfz6_5
            try clear hfz6_6
            try clear hfz6_7
            try clear hfz6_8
            try clear hfz6_9
            try clear hfz9_0
            try clear hfz9_1
            try clear hfz9_10
            try clear hfz9_11
            try clear hfz9_2
            try clear hfz9_3
            try clear hfz9_4
            try clear hfz9_5
            try clear hfz9_6
            try clear hfz9_7
            try clear hfz9_8
            try clear hfz9_9
            try clear p2
            obtain ⟨kq, x5_10, rfl, HA, HJ10, BK208, HB⟩ := hcut
            cases kq with
            | zero => exact absurd HA.out (by simp [item_unused.j2])
            | succ kj10 =>
              have H := HA.out
              clear HA
              simp only [item_unused.j2] at H
              by_cases c15 : a0_1 = 0
              · rw [if_pos c15] at H
                have c15b0 : (a0_1 == 0) = true := beq_iff_eq.mpr c15
                have c15b1 : (a0_1 != 0) = false := bne_eq_false_iff_eq.mpr c15
                clear c15
                by_cases c16 : (l0_3.length : Int) = 0
                · rw [if_pos c16] at H
                  have c16b0 : ((l0_3.length : Int) == 0) = true := beq_iff_eq.mpr c16
                  have c16b1 : ((l0_3.length : Int) != 0) = false := bne_eq_false_iff_eq.mpr c16
                  clear c16
                  by_cases c17 : x3_1 = true
                  · subst c17
                    have H1 : (if x4_6 = true then (some x5_10) else (some false)) = some r := by rw [if_pos rfl] at H; exact H
                    clear H
                    have H := H1
                    clear H1
                    by_cases c18 : x4_6 = true
                    · subst c18
                      have H1 : (some x5_10) = some r := by rw [if_pos rfl] at H; exact H
                      clear H
                      have H := H1
                      clear H1
                      obtain rfl := Option.some.inj H
                      have hcz19_0 : wc.cell? ⟨gb208, 0, none⟩ = some (.int .i64 a0_0) := (blk_cell BK208.out 0).trans rfl
                      have hcz19_1 : wc.cell? ⟨gb208, 1, none⟩ = some (.int .i64 a0_1) := (blk_cell BK208.out 1).trans rfl
                      have hcz19_2 : wc.cell? ⟨gb208, 2, none⟩ = some (.slice A0_2 l0_2.length c0_2) := (blk_cell BK208.out 2).trans rfl
                      have hcz19_3 : wc.cell? ⟨gb208, 3, none⟩ = some (.slice A0_3 l0_3.length c0_3) := (blk_cell BK208.out 3).trans rfl
                      have hcz19_4 : wc.cell? ⟨gb208, 4, none⟩ = some (.slice A0_4 l0_4.length c0_4) := (blk_cell BK208.out 4).trans rfl
                      have hcz19_5 : wc.cell? ⟨gb208, 5, none⟩ = some (.int .i64 a0_5) := (blk_cell BK208.out 5).trans rfl
                      have hcz19_6 : wc.cell? ⟨gb208, 6, none⟩ = some (.int .i64 a0_6) := (blk_cell BK208.out 6).trans rfl
                      have hcz19_7 : wc.cell? ⟨gb208, 7, none⟩ = some (.int .i64 a0_7) := (blk_cell BK208.out 7).trans rfl
                      have hcz19_8 : wc.cell? ⟨gb208, 8, none⟩ = some (.int .i64 a0_8) := (blk_cell BK208.out 8).trans rfl
                      have hcz19_9 : wc.cell? ⟨gb208, 9, none⟩ = some (.slice A0_9 l0_9.length c0_9) := (blk_cell BK208.out 9).trans rfl
                      have hcz19_10 : wc.cell? ⟨gb208, 10, none⟩ = some (.int .i64 a0_10) := (blk_cell BK208.out 10).trans rfl
                      have hcz19_11 : wc.cell? ⟨gb208, 11, none⟩ = some (.bool a0_11) := (blk_cell BK208.out 11).trans rfl
                      have hfz19_0 := blk_frozen BK208.out 0
                      have hfz19_1 := blk_frozen BK208.out 1
                      have hfz19_2 := blk_frozen BK208.out 2
                      have hfz19_3 := blk_frozen BK208.out 3
                      have hfz19_4 := blk_frozen BK208.out 4
                      have hfz19_5 := blk_frozen BK208.out 5
                      have hfz19_6 := blk_frozen BK208.out 6
                      have hfz19_7 := blk_frozen BK208.out 7
                      have hfz19_8 := blk_frozen BK208.out 8
                      have hfz19_9 := blk_frozen BK208.out 9
                      have hfz19_10 := blk_frozen BK208.out 10
                      have hfz19_11 := blk_frozen BK208.out 11
                      go_wp2
                      go_ret
                      exact ⟨by first | rfl | (simp [errW_none, errW_some] <;> rfl) | (simp [*, errW_none, errW_some] <;> rfl), by repeat (first | (with_reducible first | exact HB.out | apply below_alloc | apply pw_below_drewN | apply below_drew1 | refine below_set ?_ GE208.out) | exact HB.out)⟩
                    · replace c18 := Bool.eq_false_iff.mpr c18
                      subst c18
                      have H1 : (some false) = some r := by rw [if_neg (show ¬ (false = true) by decide)] at H; exact H
                      clear H
                      have H := H1
                      clear H1
                      obtain rfl := Option.some.inj H
                      have hcz20_0 : wc.cell? ⟨gb208, 0, none⟩ = some (.int .i64 a0_0) := (blk_cell BK208.out 0).trans rfl
                      have hcz20_1 : wc.cell? ⟨gb208, 1, none⟩ = some (.int .i64 a0_1) := (blk_cell BK208.out 1).trans rfl
                      have hcz20_2 : wc.cell? ⟨gb208, 2, none⟩ = some (.slice A0_2 l0_2.length c0_2) := (blk_cell BK208.out 2).trans rfl
                      have hcz20_3 : wc.cell? ⟨gb208, 3, none⟩ = some (.slice A0_3 l0_3.length c0_3) := (blk_cell BK208.out 3).trans rfl
                      have hcz20_4 : wc.cell? ⟨gb208, 4, none⟩ = some (.slice A0_4 l0_4.length c0_4) := (blk_cell BK208.out 4).trans rfl
                      have hcz20_5 : wc.cell? ⟨gb208, 5, none⟩ = some (.int .i64 a0_5) := (blk_cell BK208.out 5).trans rfl
                      have hcz20_6 : wc.cell? ⟨gb208, 6, none⟩ = some (.int .i64 a0_6) := (blk_cell BK208.out 6).trans rfl
                      have hcz20_7 : wc.cell? ⟨gb208, 7, none⟩ = some (.int .i64 a0_7) := (blk_cell BK208.out 7).trans rfl
                      have hcz20_8 : wc.cell? ⟨gb208, 8, none⟩ = some (.int .i64 a0_8) := (blk_cell BK208.out 8).trans rfl
                      have hcz20_9 : wc.cell? ⟨gb208, 9, none⟩ = some (.slice A0_9 l0_9.length c0_9) := (blk_cell BK208.out 9).trans rfl
                      have hcz20_10 : wc.cell? ⟨gb208, 10, none⟩ = some (.int .i64 a0_10) := (blk_cell BK208.out 10).trans rfl
                      have hcz20_11 : wc.cell? ⟨gb208, 11, none⟩ = some (.bool a0_11) := (blk_cell BK208.out 11).trans rfl
                      have hfz20_0 := blk_frozen BK208.out 0
                      have hfz20_1 := blk_frozen BK208.out 1
                      have hfz20_2 := blk_frozen BK208.out 2
                      have hfz20_3 := blk_frozen BK208.out 3
                      have hfz20_4 := blk_frozen BK208.out 4
                      have hfz20_5 := blk_frozen BK208.out 5
                      have hfz20_6 := blk_frozen BK208.out 6
                      have hfz20_7 := blk_frozen BK208.out 7
                      have hfz20_8 := blk_frozen BK208.out 8
                      have hfz20_9 := blk_frozen BK208.out 9
                      have hfz20_10 := blk_frozen BK208.out 10
                      have hfz20_11 := blk_frozen BK208.out 11
                      go_wp2
                      go_ret
                      exact ⟨by first | rfl | (simp [errW_none, errW_some] <;> rfl) | (simp [*, errW_none, errW_some] <;> rfl), by repeat (first | (with_reducible first | exact HB.out | apply below_alloc | apply pw_below_drewN | apply below_drew1 | refine below_set ?_ GE208.out) | exact HB.out)⟩
                  · replace c17 := Bool.eq_false_iff.mpr c17
                    subst c17
                    have H1 : (some false) = some r := by rw [if_neg (show ¬ (false = true) by decide)] at H; exact H
                    clear H
                    have H := H1
                    clear H1
                    obtain rfl := Option.some.inj H
                    have hcz21_0 : wc.cell? ⟨gb208, 0, none⟩ = some (.int .i64 a0_0) := (blk_cell BK208.out 0).trans rfl
                    have hcz21_1 : wc.cell? ⟨gb208, 1, none⟩ = some (.int .i64 a0_1) := (blk_cell BK208.out 1).trans rfl
                    have hcz21_2 : wc.cell? ⟨gb208, 2, none⟩ = some (.slice A0_2 l0_2.length c0_2) := (blk_cell BK208.out 2).trans rfl
                    have hcz21_3 : wc.cell? ⟨gb208, 3, none⟩ = some (.slice A0_3 l0_3.length c0_3) := (blk_cell BK208.out 3).trans rfl
                    have hcz21_4 : wc.cell? ⟨gb208, 4, none⟩ = some (.slice A0_4 l0_4.length c0_4) := (blk_cell BK208.out 4).trans rfl
                    have hcz21_5 : wc.cell? ⟨gb208, 5, none⟩ = some (.int .i64 a0_5) := (blk_cell BK208.out 5).trans rfl
                    have hcz21_6 : wc.cell? ⟨gb208, 6, none⟩ = some (.int .i64 a0_6) := (blk_cell BK208.out 6).trans rfl
                    have hcz21_7 : wc.cell? ⟨gb208, 7, none⟩ = some (.int .i64 a0_7) := (blk_cell BK208.out 7).trans rfl
                    have hcz21_8 : wc.cell? ⟨gb208, 8, none⟩ = some (.int .i64 a0_8) := (blk_cell BK208.out 8).trans rfl
                    have hcz21_9 : wc.cell? ⟨gb208, 9, none⟩ = some (.slice A0_9 l0_9.length c0_9) := (blk_cell BK208.out 9).trans rfl
                    have hcz21_10 : wc.cell? ⟨gb208, 10, none⟩ = some (.int .i64 a0_10) := (blk_cell BK208.out 10).trans rfl
                    have hcz21_11 : wc.cell? ⟨gb208, 11, none⟩ = some (.bool a0_11) := (blk_cell BK208.out 11).trans rfl
                    have hfz21_0 := blk_frozen BK208.out 0
                    have hfz21_1 := blk_frozen BK208.out 1
                    have hfz21_2 := blk_frozen BK208.out 2
                    have hfz21_3 := blk_frozen BK208.out 3
                    have hfz21_4 := blk_frozen BK208.out 4
                    have hfz21_5 := blk_frozen BK208.out 5
                    have hfz21_6 := blk_frozen BK208.out 6
                    have hfz21_7 := blk_frozen BK208.out 7
                    have hfz21_8 := blk_frozen BK208.out 8
                    have hfz21_9 := blk_frozen BK208.out 9
                    have hfz21_10 := blk_frozen BK208.out 10
                    have hfz21_11 := blk_frozen BK208.out 11
                    go_wp2
                    go_ret
                    exact ⟨by first | rfl | (simp [errW_none, errW_some] <;> rfl) | (simp [*, errW_none, errW_some] <;> rfl), by repeat (first | (with_reducible first | exact HB.out | apply below_alloc | apply pw_below_drewN | apply below_drew1 | refine below_set ?_ GE208.out) | exact HB.out)⟩
                · rw [if_neg c16] at H
                  have c16b0 : ((l0_3.length : Int) == 0) = false := beq_eq_false_iff_ne.mpr c16
                  have c16b1 : ((l0_3.length : Int) != 0) = true := bne_iff_ne.mpr c16
                  have c16b2 : ¬ (l0_3 = []) := fun h_ => c16 (by rw [h_]; rfl)
                  obtain rfl := Option.some.inj H
                  have hcz22_0 : wc.cell? ⟨gb208, 0, none⟩ = some (.int .i64 a0_0) := (blk_cell BK208.out 0).trans rfl
                  have hcz22_1 : wc.cell? ⟨gb208, 1, none⟩ = some (.int .i64 a0_1) := (blk_cell BK208.out 1).trans rfl
                  have hcz22_2 : wc.cell? ⟨gb208, 2, none⟩ = some (.slice A0_2 l0_2.length c0_2) := (blk_cell BK208.out 2).trans rfl
                  have hcz22_3 : wc.cell? ⟨gb208, 3, none⟩ = some (.slice A0_3 l0_3.length c0_3) := (blk_cell BK208.out 3).trans rfl
                  have hcz22_4 : wc.cell? ⟨gb208, 4, none⟩ = some (.slice A0_4 l0_4.length c0_4) := (blk_cell BK208.out 4).trans rfl
                  have hcz22_5 : wc.cell? ⟨gb208, 5, none⟩ = some (.int .i64 a0_5) := (blk_cell BK208.out 5).trans rfl
                  have hcz22_6 : wc.cell? ⟨gb208, 6, none⟩ = some (.int .i64 a0_6) := (blk_cell BK208.out 6).trans rfl
                  have hcz22_7 : wc.cell? ⟨gb208, 7, none⟩ = some (.int .i64 a0_7) := (blk_cell BK208.out 7).trans rfl
                  have hcz22_8 : wc.cell? ⟨gb208, 8, none⟩ = some (.int .i64 a0_8) := (blk_cell BK208.out 8).trans rfl
                  have hcz22_9 : wc.cell? ⟨gb208, 9, none⟩ = some (.slice A0_9 l0_9.length c0_9) := (blk_cell BK208.out 9).trans rfl
                  have hcz22_10 : wc.cell? ⟨gb208, 10, none⟩ = some (.int .i64 a0_10) := (blk_cell BK208.out 10).trans rfl
                  have hcz22_11 : wc.cell? ⟨gb208, 11, none⟩ = some (.bool a0_11) := (blk_cell BK208.out 11).trans rfl
                  have hfz22_0 := blk_frozen BK208.out 0
                  have hfz22_1 := blk_frozen BK208.out 1
                  have hfz22_2 := blk_frozen BK208.out 2
                  have hfz22_3 := blk_frozen BK208.out 3
                  have hfz22_4 := blk_frozen BK208.out 4
                  have hfz22_5 := blk_frozen BK208.out 5
                  have hfz22_6 := blk_frozen BK208.out 6
                  have hfz22_7 := blk_frozen BK208.out 7
                  have hfz22_8 := blk_frozen BK208.out 8
                  have hfz22_9 := blk_frozen BK208.out 9
                  have hfz22_10 := blk_frozen BK208.out 10
                  have hfz22_11 := blk_frozen BK208.out 11
                  go_wp2
                  go_ret
                  exact ⟨by first | rfl | (simp [errW_none, errW_some] <;> rfl) | (simp [*, errW_none, errW_some] <;> rfl), by repeat (first | (with_reducible first | exact HB.out | apply below_alloc | apply pw_below_drewN | apply below_drew1 | refine below_set ?_ GE208.out) | exact HB.out)⟩
              · rw [if_neg c15] at H
                have c15b0 : (a0_1 == 0) = false := beq_eq_false_iff_ne.mpr c15
                have c15b1 : (a0_1 != 0) = true := bne_iff_ne.mpr c15
                by_cases c23 : a0_1 = 1
                · rw [if_pos c23] at H
                  have c23b0 : (a0_1 == 1) = true := beq_iff_eq.mpr c23
                  have c23b1 : (a0_1 != 1) = false := bne_eq_false_iff_eq.mpr c23
                  clear c23
                  by_cases c24 : (l0_2.length : Int) = 0
                  · rw [if_pos c24] at H
                    have c24b0 : ((l0_2.length : Int) == 0) = true := beq_iff_eq.mpr c24
                    have c24b1 : ((l0_2.length : Int) != 0) = false := bne_eq_false_iff_eq.mpr c24
                    clear c24
                    by_cases c25 : x3_1 = true
                    · subst c25
                      have H1 : (if x4_6 = true then (some x5_10) else (some false)) = some r := by rw [if_pos rfl] at H; exact H
                      clear H
                      have H := H1
                      clear H1
                      by_cases c26 : x4_6 = true
                      · subst c26
                        have H1 : (some x5_10) = some r := by rw [if_pos rfl] at H; exact H
                        clear H
                        have H := H1
                        clear H1
                        obtain rfl := Option.some.inj H
                        have hcz27_0 : wc.cell? ⟨gb208, 0, none⟩ = some (.int .i64 a0_0) := (blk_cell BK208.out 0).trans rfl
                        have hcz27_1 : wc.cell? ⟨gb208, 1, none⟩ = some (.int .i64 a0_1) := (blk_cell BK208.out 1).trans rfl
                        have hcz27_2 : wc.cell? ⟨gb208, 2, none⟩ = some (.slice A0_2 l0_2.length c0_2) := (blk_cell BK208.out 2).trans rfl
                        have hcz27_3 : wc.cell? ⟨gb208, 3, none⟩ = some (.slice A0_3 l0_3.length c0_3) := (blk_cell BK208.out 3).trans rfl
                        have hcz27_4 : wc.cell? ⟨gb208, 4, none⟩ = some (.slice A0_4 l0_4.length c0_4) := (blk_cell BK208.out 4).trans rfl
                        have hcz27_5 : wc.cell? ⟨gb208, 5, none⟩ = some (.int .i64 a0_5) := (blk_cell BK208.out 5).trans rfl
                        have hcz27_6 : wc.cell? ⟨gb208, 6, none⟩ = some (.int .i64 a0_6) := (blk_cell BK208.out 6).trans rfl
                        have hcz27_7 : wc.cell? ⟨gb208, 7, none⟩ = some (.int .i64 a0_7) := (blk_cell BK208.out 7).trans rfl
                        have hcz27_8 : wc.cell? ⟨gb208, 8, none⟩ = some (.int .i64 a0_8) := (blk_cell BK208.out 8).trans rfl
                        have hcz27_9 : wc.cell? ⟨gb208, 9, none⟩ = some (.slice A0_9 l0_9.length c0_9) := (blk_cell BK208.out 9).trans rfl
                        have hcz27_10 : wc.cell? ⟨gb208, 10, none⟩ = some (.int .i64 a0_10) := (blk_cell BK208.out 10).trans rfl
                        have hcz27_11 : wc.cell? ⟨gb208, 11, none⟩ = some (.bool a0_11) := (blk_cell BK208.out 11).trans rfl
                        have hfz27_0 := blk_frozen BK208.out 0
                        have hfz27_1 := blk_frozen BK208.out 1
                        have hfz27_2 := blk_frozen BK208.out 2
                        have hfz27_3 := blk_frozen BK208.out 3
                        have hfz27_4 := blk_frozen BK208.out 4
                        have hfz27_5 := blk_frozen BK208.out 5
                        have hfz27_6 := blk_frozen BK208.out 6
                        have hfz27_7 := blk_frozen BK208.out 7
                        have hfz27_8 := blk_frozen BK208.out 8
                        have hfz27_9 := blk_frozen BK208.out 9
                        have hfz27_10 := blk_frozen BK208.out 10
                        have hfz27_11 := blk_frozen BK208.out 11
                        go_wp2
                        go_ret
                        exact ⟨by first | rfl | (simp [errW_none, errW_some] <;> rfl) | (simp [*, errW_none, errW_some] <;> rfl), by repeat (first | (with_reducible first | exact HB.out | apply below_alloc | apply pw_below_drewN | apply below_drew1 | refine below_set ?_ GE208.out) | exact HB.out)⟩
                      · replace c26 := Bool.eq_false_iff.mpr c26
                        subst c26
                        have H1 : (some false) = some r := by rw [if_neg (show ¬ (false = true) by decide)] at H; exact H
                        clear H
                        have H := H1
                        clear H1
                        obtain rfl := Option.some.inj H
                        have hcz28_0 : wc.cell? ⟨gb208, 0, none⟩ = some (.int .i64 a0_0) := (blk_cell BK208.out 0).trans rfl
                        have hcz28_1 : wc.cell? ⟨gb208, 1, none⟩ = some (.int .i64 a0_1) := (blk_cell BK208.out 1).trans rfl
                        have hcz28_2 : wc.cell? ⟨gb208, 2, none⟩ = some (.slice A0_2 l0_2.length c0_2) := (blk_cell BK208.out 2).trans rfl
                        have hcz28_3 : wc.cell? ⟨gb208, 3, none⟩ = some (.slice A0_3 l0_3.length c0_3) := (blk_cell BK208.out 3).trans rfl
                        have hcz28_4 : wc.cell? ⟨gb208, 4, none⟩ = some (.slice A0_4 l0_4.length c0_4) := (blk_cell BK208.out 4).trans rfl
                        have hcz28_5 : wc.cell? ⟨gb208, 5, none⟩ = some (.int .i64 a0_5) := (blk_cell BK208.out 5).trans rfl
                        have hcz28_6 : wc.cell? ⟨gb208, 6, none⟩ = some (.int .i64 a0_6) := (blk_cell BK208.out 6).trans rfl
                        have hcz28_7 : wc.cell? ⟨gb208, 7, none⟩ = some (.int .i64 a0_7) := (blk_cell BK208.out 7).trans rfl
                        have hcz28_8 : wc.cell? ⟨gb208, 8, none⟩ = some (.int .i64 a0_8) := (blk_cell BK208.out 8).trans rfl
                        have hcz28_9 : wc.cell? ⟨gb208, 9, none⟩ = some (.slice A0_9 l0_9.length c0_9) := (blk_cell BK208.out 9).trans rfl
                        have hcz28_10 : wc.cell? ⟨gb208, 10, none⟩ = some (.int .i64 a0_10) := (blk_cell BK208.out 10).trans rfl
                        have hcz28_11 : wc.cell? ⟨gb208, 11, none⟩ = some (.bool a0_11) := (blk_cell BK208.out 11).trans rfl
                        have hfz28_0 := blk_frozen BK208.out 0
                        have hfz28_1 := blk_frozen BK208.out 1
                        have hfz28_2 := blk_frozen BK208.out 2
                        have hfz28_3 := blk_frozen BK208.out 3
                        have hfz28_4 := blk_frozen BK208.out 4
                        have hfz28_5 := blk_frozen BK208.out 5
                        have hfz28_6 := blk_frozen BK208.out 6
                        have hfz28_7 := blk_frozen BK208.out 7
                        have hfz28_8 := blk_frozen BK208.out 8
                        have hfz28_9 := blk_frozen BK208.out 9
                        have hfz28_10 := blk_frozen BK208.out 10
                        have hfz28_11 := blk_frozen BK208.out 11
                        go_wp2
                        go_ret
                        exact ⟨by first | rfl | (simp [errW_none, errW_some] <;> rfl) | (simp [*, errW_none, errW_some] <;> rfl), by repeat (first | (with_reducible first | exact HB.out | apply below_alloc | apply pw_below_drewN | apply below_drew1 | refine below_set ?_ GE208.out) | exact HB.out)⟩
                    · replace c25 := Bool.eq_false_iff.mpr c25
                      subst c25
                      have H1 : (some false) = some r := by rw [if_neg (show ¬ (false = true) by decide)] at H; exact H
                      clear H
                      have H := H1
                      clear H1
                      obtain rfl := Option.some.inj H
                      have hcz29_0 : wc.cell? ⟨gb208, 0, none⟩ = some (.int .i64 a0_0) := (blk_cell BK208.out 0).trans rfl
                      have hcz29_1 : wc.cell? ⟨gb208, 1, none⟩ = some (.int .i64 a0_1) := (blk_cell BK208.out 1).trans rfl
                      have hcz29_2 : wc.cell? ⟨gb208, 2, none⟩ = some (.slice A0_2 l0_2.length c0_2) := (blk_cell BK208.out 2).trans rfl
                      have hcz29_3 : wc.cell? ⟨gb208, 3, none⟩ = some (.slice A0_3 l0_3.length c0_3) := (blk_cell BK208.out 3).trans rfl
                      have hcz29_4 : wc.cell? ⟨gb208, 4, none⟩ = some (.slice A0_4 l0_4.length c0_4) := (blk_cell BK208.out 4).trans rfl
                      have hcz29_5 : wc.cell? ⟨gb208, 5, none⟩ = some (.int .i64 a0_5) := (blk_cell BK208.out 5).trans rfl
                      have hcz29_6 : wc.cell? ⟨gb208, 6, none⟩ = some (.int .i64 a0_6) := (blk_cell BK208.out 6).trans rfl
                      have hcz29_7 : wc.cell? ⟨gb208, 7, none⟩ = some (.int .i64 a0_7) := (blk_cell BK208.out 7).trans rfl
                      have hcz29_8 : wc.cell? ⟨gb208, 8, none⟩ = some (.int .i64 a0_8) := (blk_cell BK208.out 8).trans rfl
                      have hcz29_9 : wc.cell? ⟨gb208, 9, none⟩ = some (.slice A0_9 l0_9.length c0_9) := (blk_cell BK208.out 9).trans rfl
                      have hcz29_10 : wc.cell? ⟨gb208, 10, none⟩ = some (.int .i64 a0_10) := (blk_cell BK208.out 10).trans rfl
                      have hcz29_11 : wc.cell? ⟨gb208, 11, none⟩ = some (.bool a0_11) := (blk_cell BK208.out 11).trans rfl
                      have hfz29_0 := blk_frozen BK208.out 0
                      have hfz29_1 := blk_frozen BK208.out 1
                      have hfz29_2 := blk_frozen BK208.out 2
                      have hfz29_3 := blk_frozen BK208.out 3
                      have hfz29_4 := blk_frozen BK208.out 4
                      have hfz29_5 := blk_frozen BK208.out 5
                      have hfz29_6 := blk_frozen BK208.out 6
                      have hfz29_7 := blk_frozen BK208.out 7
                      have hfz29_8 := blk_frozen BK208.out 8
                      have hfz29_9 := blk_frozen BK208.out 9
                      have hfz29_10 := blk_frozen BK208.out 10
                      have hfz29_11 := blk_frozen BK208.out 11
                      go_wp2
                      go_ret
                      exact ⟨by first | rfl | (simp [errW_none, errW_some] <;> rfl) | (simp [*, errW_none, errW_some] <;> rfl), by repeat (first | (with_reducible first | exact HB.out | apply below_alloc | apply pw_below_drewN | apply below_drew1 | refine below_set ?_ GE208.out) | exact HB.out)⟩
                  · rw [if_neg c24] at H
                    have c24b0 : ((l0_2.length : Int) == 0) = false := beq_eq_false_iff_ne.mpr c24
                    have c24b1 : ((l0_2.length : Int) != 0) = true := bne_iff_ne.mpr c24
                    have c24b2 : ¬ (l0_2 = []) := fun h_ => c24 (by rw [h_]; rfl)
                    obtain rfl := Option.some.inj H
                    have hcz30_0 : wc.cell? ⟨gb208, 0, none⟩ = some (.int .i64 a0_0) := (blk_cell BK208.out 0).trans rfl
                    have hcz30_1 : wc.cell? ⟨gb208, 1, none⟩ = some (.int .i64 a0_1) := (blk_cell BK208.out 1).trans rfl
                    have hcz30_2 : wc.cell? ⟨gb208, 2, none⟩ = some (.slice A0_2 l0_2.length c0_2) := (blk_cell BK208.out 2).trans rfl
                    have hcz30_3 : wc.cell? ⟨gb208, 3, none⟩ = some (.slice A0_3 l0_3.length c0_3) := (blk_cell BK208.out 3).trans rfl
                    have hcz30_4 : wc.cell? ⟨gb208, 4, none⟩ = some (.slice A0_4 l0_4.length c0_4) := (blk_cell BK208.out 4).trans rfl
                    have hcz30_5 : wc.cell? ⟨gb208, 5, none⟩ = some (.int .i64 a0_5) := (blk_cell BK208.out 5).trans rfl
                    have hcz30_6 : wc.cell? ⟨gb208, 6, none⟩ = some (.int .i64 a0_6) := (blk_cell BK208.out 6).trans rfl
                    have hcz30_7 : wc.cell? ⟨gb208, 7, none⟩ = some (.int .i64 a0_7) := (blk_cell BK208.out 7).trans rfl
                    have hcz30_8 : wc.cell? ⟨gb208, 8, none⟩ = some (.int .i64 a0_8) := (blk_cell BK208.out 8).trans rfl
                    have hcz30_9 : wc.cell? ⟨gb208, 9, none⟩ = some (.slice A0_9 l0_9.length c0_9) := (blk_cell BK208.out 9).trans rfl
                    have hcz30_10 : wc.cell? ⟨gb208, 10, none⟩ = some (.int .i64 a0_10) := (blk_cell BK208.out 10).trans rfl
                    have hcz30_11 : wc.cell? ⟨gb208, 11, none⟩ = some (.bool a0_11) := (blk_cell BK208.out 11).trans rfl
                    have hfz30_0 := blk_frozen BK208.out 0
                    have hfz30_1 := blk_frozen BK208.out 1
                    have hfz30_2 := blk_frozen BK208.out 2
                    have hfz30_3 := blk_frozen BK208.out 3
                    have hfz30_4 := blk_frozen BK208.out 4
                    have hfz30_5 := blk_frozen BK208.out 5
                    have hfz30_6 := blk_frozen BK208.out 6
                    have hfz30_7 := blk_frozen BK208.out 7
                    have hfz30_8 := blk_frozen BK208.out 8
                    have hfz30_9 := blk_frozen BK208.out 9
                    have hfz30_10 := blk_frozen BK208.out 10
                    have hfz30_11 := blk_frozen BK208.out 11
                    go_wp2
                    go_ret
                    exact ⟨by first | rfl | (simp [errW_none, errW_some] <;> rfl) | (simp [*, errW_none, errW_some] <;> rfl), by repeat (first | (with_reducible first | exact HB.out | apply below_alloc | apply pw_below_drewN | apply below_drew1 | refine below_set ?_ GE208.out) | exact HB.out)⟩
                · rw [if_neg c23] at H
                  have c23b0 : (a0_1 == 1) = false := beq_eq_false_iff_ne.mpr c23
                  have c23b1 : (a0_1 != 1) = true := bne_iff_ne.mpr c23
                  by_cases c31 : a0_1 = 2
                  · rw [if_pos c31] at H
                    have c31b0 : (a0_1 == 2) = true := beq_iff_eq.mpr c31
                    have c31b1 : (a0_1 != 2) = false := bne_eq_false_iff_eq.mpr c31
                    clear c31
                    by_cases c32 : (l0_2.length : Int) = 0
                    · rw [if_pos c32] at H
                      have c32b0 : ((l0_2.length : Int) == 0) = true := beq_iff_eq.mpr c32
                      have c32b1 : ((l0_2.length : Int) != 0) = false := bne_eq_false_iff_eq.mpr c32
                      clear c32
                      obtain rfl := Option.some.inj H
                      have hcz33_0 : wc.cell? ⟨gb208, 0, none⟩ = some (.int .i64 a0_0) := (blk_cell BK208.out 0).trans rfl
                      have hcz33_1 : wc.cell? ⟨gb208, 1, none⟩ = some (.int .i64 a0_1) := (blk_cell BK208.out 1).trans rfl
                      have hcz33_2 : wc.cell? ⟨gb208, 2, none⟩ = some (.slice A0_2 l0_2.length c0_2) := (blk_cell BK208.out 2).trans rfl
                      have hcz33_3 : wc.cell? ⟨gb208, 3, none⟩ = some (.slice A0_3 l0_3.length c0_3) := (blk_cell BK208.out 3).trans rfl
                      have hcz33_4 : wc.cell? ⟨gb208, 4, none⟩ = some (.slice A0_4 l0_4.length c0_4) := (blk_cell BK208.out 4).trans rfl
                      have hcz33_5 : wc.cell? ⟨gb208, 5, none⟩ = some (.int .i64 a0_5) := (blk_cell BK208.out 5).trans rfl
                      have hcz33_6 : wc.cell? ⟨gb208, 6, none⟩ = some (.int .i64 a0_6) := (blk_cell BK208.out 6).trans rfl
                      have hcz33_7 : wc.cell? ⟨gb208, 7, none⟩ = some (.int .i64 a0_7) := (blk_cell BK208.out 7).trans rfl
                      have hcz33_8 : wc.cell? ⟨gb208, 8, none⟩ = some (.int .i64 a0_8) := (blk_cell BK208.out 8).trans rfl
                      have hcz33_9 : wc.cell? ⟨gb208, 9, none⟩ = some (.slice A0_9 l0_9.length c0_9) := (blk_cell BK208.out 9).trans rfl
                      have hcz33_10 : wc.cell? ⟨gb208, 10, none⟩ = some (.int .i64 a0_10) := (blk_cell BK208.out 10).trans rfl
                      have hcz33_11 : wc.cell? ⟨gb208, 11, none⟩ = some (.bool a0_11) := (blk_cell BK208.out 11).trans rfl
                      have hfz33_0 := blk_frozen BK208.out 0
                      have hfz33_1 := blk_frozen BK208.out 1
                      have hfz33_2 := blk_frozen BK208.out 2
                      have hfz33_3 := blk_frozen BK208.out 3
                      have hfz33_4 := blk_frozen BK208.out 4
                      have hfz33_5 := blk_frozen BK208.out 5
                      have hfz33_6 := blk_frozen BK208.out 6
                      have hfz33_7 := blk_frozen BK208.out 7
                      have hfz33_8 := blk_frozen BK208.out 8
                      have hfz33_9 := blk_frozen BK208.out 9
                      have hfz33_10 := blk_frozen BK208.out 10
                      have hfz33_11 := blk_frozen BK208.out 11
                      go_wp2
                      go_ret
                      exact ⟨by first | rfl | (simp [errW_none, errW_some] <;> rfl) | (simp [*, errW_none, errW_some] <;> rfl), by repeat (first | (with_reducible first | exact HB.out | apply below_alloc | apply pw_below_drewN | apply below_drew1 | refine below_set ?_ GE208.out) | exact HB.out)⟩
                    · rw [if_neg c32] at H
                      have c32b0 : ((l0_2.length : Int) == 0) = false := beq_eq_false_iff_ne.mpr c32
                      have c32b1 : ((l0_2.length : Int) != 0) = true := bne_iff_ne.mpr c32
                      have c32b2 : ¬ (l0_2 = []) := fun h_ => c32 (by rw [h_]; rfl)
                      obtain rfl := Option.some.inj H
                      have hcz34_0 : wc.cell? ⟨gb208, 0, none⟩ = some (.int .i64 a0_0) := (blk_cell BK208.out 0).trans rfl
                      have hcz34_1 : wc.cell? ⟨gb208, 1, none⟩ = some (.int .i64 a0_1) := (blk_cell BK208.out 1).trans rfl
                      have hcz34_2 : wc.cell? ⟨gb208, 2, none⟩ = some (.slice A0_2 l0_2.length c0_2) := (blk_cell BK208.out 2).trans rfl
                      have hcz34_3 : wc.cell? ⟨gb208, 3, none⟩ = some (.slice A0_3 l0_3.length c0_3) := (blk_cell BK208.out 3).trans rfl
                      have hcz34_4 : wc.cell? ⟨gb208, 4, none⟩ = some (.slice A0_4 l0_4.length c0_4) := (blk_cell BK208.out 4).trans rfl
                      have hcz34_5 : wc.cell? ⟨gb208, 5, none⟩ = some (.int .i64 a0_5) := (blk_cell BK208.out 5).trans rfl
                      have hcz34_6 : wc.cell? ⟨gb208, 6, none⟩ = some (.int .i64 a0_6) := (blk_cell BK208.out 6).trans rfl
                      have hcz34_7 : wc.cell? ⟨gb208, 7, none⟩ = some (.int .i64 a0_7) := (blk_cell BK208.out 7).trans rfl
                      have hcz34_8 : wc.cell? ⟨gb208, 8, none⟩ = some (.int .i64 a0_8) := (blk_cell BK208.out 8).trans rfl
                      have hcz34_9 : wc.cell? ⟨gb208, 9, none⟩ = some (.slice A0_9 l0_9.length c0_9) := (blk_cell BK208.out 9).trans rfl
                      have hcz34_10 : wc.cell? ⟨gb208, 10, none⟩ = some (.int .i64 a0_10) := (blk_cell BK208.out 10).trans rfl
                      have hcz34_11 : wc.cell? ⟨gb208, 11, none⟩ = some (.bool a0_11) := (blk_cell BK208.out 11).trans rfl
                      have hfz34_0 := blk_frozen BK208.out 0
                      have hfz34_1 := blk_frozen BK208.out 1
                      have hfz34_2 := blk_frozen BK208.out 2
                      have hfz34_3 := blk_frozen BK208.out 3
                      have hfz34_4 := blk_frozen BK208.out 4
                      have hfz34_5 := blk_frozen BK208.out 5
                      have hfz34_6 := blk_frozen BK208.out 6
                      have hfz34_7 := blk_frozen BK208.out 7
                      have hfz34_8 := blk_frozen BK208.out 8
                      have hfz34_9 := blk_frozen BK208.out 9
                      have hfz34_10 := blk_frozen BK208.out 10
                      have hfz34_11 := blk_frozen BK208.out 11
                      go_wp2
                      go_ret
                      exact ⟨by first | rfl | (simp [errW_none, errW_some] <;> rfl) | (simp [*, errW_none, errW_some] <;> rfl), by repeat (first | (with_reducible first | exact HB.out | apply below_alloc | apply pw_below_drewN | apply below_drew1 | refine below_set ?_ GE208.out) | exact HB.out)⟩
                  · rw [if_neg c31] at H
                    have c31b0 : (a0_1 == 2) = false := beq_eq_false_iff_ne.mpr c31
                    have c31b1 : (a0_1 != 2) = true := bne_iff_ne.mpr c31
                    by_cases c35 : (l0_2.length : Int) = 0
                    · rw [if_pos c35] at H
                      have c35b0 : ((l0_2.length : Int) == 0) = true := beq_iff_eq.mpr c35
                      have c35b1 : ((l0_2.length : Int) != 0) = false := bne_eq_false_iff_eq.mpr c35
                      clear c35
                      obtain rfl := Option.some.inj H
                      have hcz36_0 : wc.cell? ⟨gb208, 0, none⟩ = some (.int .i64 a0_0) := (blk_cell BK208.out 0).trans rfl
                      have hcz36_1 : wc.cell? ⟨gb208, 1, none⟩ = some (.int .i64 a0_1) := (blk_cell BK208.out 1).trans rfl
                      have hcz36_2 : wc.cell? ⟨gb208, 2, none⟩ = some (.slice A0_2 l0_2.length c0_2) := (blk_cell BK208.out 2).trans rfl
                      have hcz36_3 : wc.cell? ⟨gb208, 3, none⟩ = some (.slice A0_3 l0_3.length c0_3) := (blk_cell BK208.out 3).trans rfl
                      have hcz36_4 : wc.cell? ⟨gb208, 4, none⟩ = some (.slice A0_4 l0_4.length c0_4) := (blk_cell BK208.out 4).trans rfl
                      have hcz36_5 : wc.cell? ⟨gb208, 5, none⟩ = some (.int .i64 a0_5) := (blk_cell BK208.out 5).trans rfl
                      have hcz36_6 : wc.cell? ⟨gb208, 6, none⟩ = some (.int .i64 a0_6) := (blk_cell BK208.out 6).trans rfl
                      have hcz36_7 : wc.cell? ⟨gb208, 7, none⟩ = some (.int .i64 a0_7) := (blk_cell BK208.out 7).trans rfl
                      have hcz36_8 : wc.cell? ⟨gb208, 8, none⟩ = some (.int .i64 a0_8) := (blk_cell BK208.out 8).trans rfl
                      have hcz36_9 : wc.cell? ⟨gb208, 9, none⟩ = some (.slice A0_9 l0_9.length c0_9) := (blk_cell BK208.out 9).trans rfl
                      have hcz36_10 : wc.cell? ⟨gb208, 10, none⟩ = some (.int .i64 a0_10) := (blk_cell BK208.out 10).trans rfl
                      have hcz36_11 : wc.cell? ⟨gb208, 11, none⟩ = some (.bool a0_11) := (blk_cell BK208.out 11).trans rfl
                      have hfz36_0 := blk_frozen BK208.out 0
                      have hfz36_1 := blk_frozen BK208.out 1
                      have hfz36_2 := blk_frozen BK208.out 2
                      have hfz36_3 := blk_frozen BK208.out 3
                      have hfz36_4 := blk_frozen BK208.out 4
                      have hfz36_5 := blk_frozen BK208.out 5
                      have hfz36_6 := blk_frozen BK208.out 6
                      have hfz36_7 := blk_frozen BK208.out 7
                      have hfz36_8 := blk_frozen BK208.out 8
                      have hfz36_9 := blk_frozen BK208.out 9
                      have hfz36_10 := blk_frozen BK208.out 10
                      have hfz36_11 := blk_frozen BK208.out 11
                      go_wp2
                      go_ret
                      exact ⟨by first | rfl | (simp [errW_none, errW_some] <;> rfl) | (simp [*, errW_none, errW_some] <;> rfl), by repeat (first | (with_reducible first | exact HB.out | apply below_alloc | apply pw_below_drewN | apply below_drew1 | refine below_set ?_ GE208.out) | exact HB.out)⟩
                    · rw [if_neg c35] at H
                      have c35b0 : ((l0_2.length : Int) == 0) = false := beq_eq_false_iff_ne.mpr c35
                      have c35b1 : ((l0_2.length : Int) != 0) = true := bne_iff_ne.mpr c35
                      have c35b2 : ¬ (l0_2 = []) := fun h_ => c35 (by rw [h_]; rfl)
                      obtain rfl := Option.some.inj H
                      have hcz37_0 : wc.cell? ⟨gb208, 0, none⟩ = some (.int .i64 a0_0) := (blk_cell BK208.out 0).trans rfl
                      have hcz37_1 : wc.cell? ⟨gb208, 1, none⟩ = some (.int .i64 a0_1) := (blk_cell BK208.out 1).trans rfl
                      have hcz37_2 : wc.cell? ⟨gb208, 2, none⟩ = some (.slice A0_2 l0_2.length c0_2) := (blk_cell BK208.out 2).trans rfl
                      have hcz37_3 : wc.cell? ⟨gb208, 3, none⟩ = some (.slice A0_3 l0_3.length c0_3) := (blk_cell BK208.out 3).trans rfl
                      have hcz37_4 : wc.cell? ⟨gb208, 4, none⟩ = some (.slice A0_4 l0_4.length c0_4) := (blk_cell BK208.out 4).trans rfl
                      have hcz37_5 : wc.cell? ⟨gb208, 5, none⟩ = some (.int .i64 a0_5) := (blk_cell BK208.out 5).trans rfl
                      have hcz37_6 : wc.cell? ⟨gb208, 6, none⟩ = some (.int .i64 a0_6) := (blk_cell BK208.out 6).trans rfl
                      have hcz37_7 : wc.cell? ⟨gb208, 7, none⟩ = some (.int .i64 a0_7) := (blk_cell BK208.out 7).trans rfl
                      have hcz37_8 : wc.cell? ⟨gb208, 8, none⟩ = some (.int .i64 a0_8) := (blk_cell BK208.out 8).trans rfl
                      have hcz37_9 : wc.cell? ⟨gb208, 9, none⟩ = some (.slice A0_9 l0_9.length c0_9) := (blk_cell BK208.out 9).trans rfl
                      have hcz37_10 : wc.cell? ⟨gb208, 10, none⟩ = some (.int .i64 a0_10) := (blk_cell BK208.out 10).trans rfl
                      have hcz37_11 : wc.cell? ⟨gb208, 11, none⟩ = some (.bool a0_11) := (blk_cell BK208.out 11).trans rfl
                      have hfz37_0 := blk_frozen BK208.out 0
                      have hfz37_1 := blk_frozen BK208.out 1
                      have hfz37_2 := blk_frozen BK208.out 2
                      have hfz37_3 := blk_frozen BK208.out 3
                      have hfz37_4 := blk_frozen BK208.out 4
                      have hfz37_5 := blk_frozen BK208.out 5
                      have hfz37_6 := blk_frozen BK208.out 6
                      have hfz37_7 := blk_frozen BK208.out 7
                      have hfz37_8 := blk_frozen BK208.out 8
                      have hfz37_9 := blk_frozen BK208.out 9
                      have hfz37_10 := blk_frozen BK208.out 10
                      have hfz37_11 := blk_frozen BK208.out 11
                      go_wp2
                      go_ret
                      exact ⟨by first | rfl | (simp [errW_none, errW_some] <;> rfl) | (simp [*, errW_none, errW_some] <;> rfl), by repeat (first | (with_reducible first | exact HB.out | apply below_alloc | apply pw_below_drewN | apply below_drew1 | refine below_set ?_ GE208.out) | exact HB.out)⟩
end Go.Proofs.YtphkionjjhhhlaaGreat.Q
end
section
namespace Go.Proofs.YtphkionjjhhhlaaGreat.Q
open Go.RowKit Go.Proofs.YtphkionjjhhhlaaGreatW.PrintWords Go.Proofs.YtphkionjjhhhlaaGreatW.PrintLast Go.Proofs.YtphkionjjhhhlaaGreatW.PrintMore
def dioramaref15_all.l0 : Nat → List Int → Int → Int → Int → Option (Bool)
  | 0, _, _, _, _ => none
  | k + 1, x0, x1, x2, x7 => if x7 < (x0.length : Int) then (if 0 ≤ x7 then ((dioramaref15_in.f (rd x0 x7) x1 x2).bind fun t318 => (if t318 = true then (dioramaref15_all.l0 k x0 x1 x2 (wrap64 (x7 + 1))) else (some false))) else (none)) else (some true)
def dioramaref15_all.f (k : Nat) (l0 : List Int) (a1 : Int) (a2 : Int) : Option (Bool) := dioramaref15_all.l0 k l0 a1 a2 0
set_option maxHeartbeats 8000000 in
set_option maxRecDepth 100000 in
theorem dioramaref15_all.calls (k : Nat) (A0 : Option Addr) (c0 : Nat) (l0 : List Int) (a1 : Int) (a2 : Int) (r : Bool) (w : World) (hr0 : Kd.C (Kd.int .i64) w A0 l0.length l0) (hc0 : l0.length ≤ c0) (h : dioramaref15_all.f k l0 a1 a2 = some r) :
    Calls Tryz.prog 115 #[.slice A0 l0.length c0, .int .i64 a1, .int .i64 a2] w fun e w' => e = .returned (.bool r) ∧ Drawn0 w w' := by
  have HR0 := Aside0.mk hr0
  have HC0 := Aside0.mk hc0
  clear hr0 hc0
  have H : (dioramaref15_all.l0 k l0 a1 a2 0) = some r := h
  clear h
  have H' := Aside0.mk H
  clear H
  go_enter Tryz.func115, Tryz.ntmps115
  go_wp2
  go_loopg [7] k (fun kq v7 w' => ∃ (x7_1 : Int), v7 = .int .i64 x7_1 ∧ Aside0 (dioramaref15_all.l0 kq l0 a1 a2 x7_1 = some r) ∧ Aside0 (kq ≤ k) ∧ Drawn0 w w')
  case atStart => exact ⟨(0), (by first | rfl | (simp; done) | (simp [*]; done)), H', ⟨Nat.le_refl _⟩, by repeat (first | exact Drawn0.refl _ | apply Drawn0.step)⟩
  case round =>
    clear H'
    try clear c1
    try clear p2
    obtain ⟨x7_1, rfl, HA, HK1, ⟨m1, rfl⟩⟩ := hrel
    cases gk with
    | zero => exact absurd HA.out (by simp [dioramaref15_all.l0])
    | succ k1 =>
      have H := HA.out
      clear HA
      simp only [dioramaref15_all.l0] at H
      by_cases c4 : x7_1 < (l0.length : Int)
      · rw [if_pos c4] at H
        have c4b0 : decide (x7_1 < (l0.length : Int)) = true := decide_eq_true c4
        clear c4
        by_cases c5 : 0 ≤ x7_1
        · rw [if_pos c5] at H
          have c5b0 : decide (0 ≤ x7_1) = true := decide_eq_true c5
          clear c5
          replace H := Option.bind_eq_some_iff.mp H
          obtain ⟨t318, A60, H⟩ := H
          replace H : (if t318 = true then (dioramaref15_all.l0 k1 l0 a1 a2 (wrap64 (x7_1 + 1))) else (some false)) = some r := H
          have A6 := Aside0.mk A60
          clear A60
          by_cases c7 : t318 = true
          · subst c7
            have H1 : (dioramaref15_all.l0 k1 l0 a1 a2 (wrap64 (x7_1 + 1))) = some r := by rw [if_pos rfl] at H; exact H
            clear H
            have H := H1
            clear H1
            have H' := Aside0.mk H
            clear H
            have p317 : 0 ≤ (x7_1 : Int) := of_decide_eq_true (by first | (with_reducible assumption) | assumption)
            have q317 : x7_1 < (l0.length : Int) := of_decide_eq_true (by first | (with_reducible assumption) | assumption)
            obtain ⟨ad317, e317, hx317_0⟩ := Kd.at_int HR0.out x7_1 p317 q317
            cases e317
            replace p317 := eq_true p317
            replace q317 := eq_true q317
            go_wp2_with (first | ((with_reducible refine gate_callee (f := 50) rfl ?_); refine goesL_ (some 20) rfl rfl Tryz.func50 (by kernel_rfl) rfl #[.int .i64 (rd l0 x7_1), .int .i64 a1, .int .i64 a2] rfl (by (try simp only [List.map_toArray, List.map_cons, List.map_nil]); first | done | rfl | (simp only [List.length_drop, List.length_take]; rfl)) ?_; (with_reducible refine (dioramaref15_in.calls (rd l0 x7_1) a1 a2 true _ A6.out).mono ?_); rintro e w' ⟨rfl, ⟨nd, rfl⟩⟩; refine ⟨_, rfl, ?_⟩))
            go_roundg k1
            case measure => have := HK1.out; omega
            case rel => exact ⟨(wrap64 (x7_1 + 1)), (by first | rfl | (simp; done) | (simp [*]; done)), H', ⟨by have := HK1.out; omega⟩, by repeat (first | exact Drawn0.refl _ | apply Drawn0.step)⟩
          · replace c7 := Bool.eq_false_iff.mpr c7
            subst c7
            have H1 : (some false) = some r := by rw [if_neg (show ¬ (false = true) by decide)] at H; exact H
            clear H
            have H := H1
            clear H1
            obtain rfl := Option.some.inj H
            have p317 : 0 ≤ (x7_1 : Int) := of_decide_eq_true (by first | (with_reducible assumption) | assumption)
            have q317 : x7_1 < (l0.length : Int) := of_decide_eq_true (by first | (with_reducible assumption) | assumption)
            obtain ⟨ad317, e317, hx317_0⟩ := Kd.at_int HR0.out x7_1 p317 q317
            cases e317
            replace p317 := eq_true p317
            replace q317 := eq_true q317
            go_wp2_with (first | ((with_reducible refine gate_callee (f := 50) rfl ?_); refine goesL_ (some 20) rfl rfl Tryz.func50 (by kernel_rfl) rfl #[.int .i64 (rd l0 x7_1), .int .i64 a1, .int .i64 a2] rfl (by (try simp only [List.map_toArray, List.map_cons, List.map_nil]); first | done | rfl | (simp only [List.length_drop, List.length_take]; rfl)) ?_; (with_reducible refine (dioramaref15_in.calls (rd l0 x7_1) a1 a2 false _ A6.out).mono ?_); rintro e w' ⟨rfl, ⟨nd, rfl⟩⟩; refine ⟨_, rfl, ?_⟩))
            go_ret
            exact ⟨by first | rfl | (simp; done) | (simp [*]; done), by repeat (first | exact Drawn0.refl _ | apply Drawn0.step)⟩
        · rw [if_neg c5] at H
          exact absurd H (by simp)
      · rw [if_neg c4] at H
        have c4b0 : decide (x7_1 < (l0.length : Int)) = false := decide_eq_false c4
        clear c4
        obtain rfl := Option.some.inj H
        go_wp2
        go_ret
        exact ⟨by first | rfl | (simp; done) | (simp [*]; done), by repeat (first | exact Drawn0.refl _ | apply Drawn0.step)⟩
end Go.Proofs.YtphkionjjhhhlaaGreat.Q
end
