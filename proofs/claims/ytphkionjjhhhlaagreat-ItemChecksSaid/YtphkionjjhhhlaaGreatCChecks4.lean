/- Lemmas and walks of this proof (part 4). -/
import Derived.Laws.Bits64b
import Derived.Laws.EntriesVeiled
import Derived.Test.YtphkionjjhhhlaaGreatCChecks3
set_option linter.unusedVariables false
set_option linter.unusedSimpArgs false
section
namespace Go.Proofs.YtphkionjjhhhlaaGreat.Q
open Go.RowKit Go.Proofs.YtphkionjjhhhlaaGreatW.PrintWords Go.Proofs.YtphkionjjhhhlaaGreatW.PrintLast Go.Proofs.YtphkionjjhhhlaaGreatW.PrintMore
def dioramaref00_EqInts.l0 : Nat → List Int → List Int → Int → Option (Bool)
  | 0, _, _, _ => none
  | k + 1, x0, x1, x5 => if x5 < (x0.length : Int) then (if 0 ≤ x5 then (if x5 < (x1.length : Int) then (if (rd x0 x5) = (rd x1 x5) then (dioramaref00_EqInts.l0 k x0 x1 (wrap64 (x5 + 1))) else (some false)) else (none)) else (none)) else (some true)
def dioramaref00_EqInts.f (k : Nat) (l0 : List Int) (l1 : List Int) : Option (Bool) := if (l0.length : Int) = (l1.length : Int) then (dioramaref00_EqInts.l0 k l0 l1 0) else (some false)
set_option maxHeartbeats 8000000 in
set_option maxRecDepth 100000 in
theorem dioramaref00_EqInts.calls (k : Nat) (A0 : Option Addr) (c0 : Nat) (l0 : List Int) (A1 : Option Addr) (c1 : Nat) (l1 : List Int) (r : Bool) (w : World) (hr0 : Kd.C (Kd.int .i64) w A0 l0.length l0) (hc0 : l0.length ≤ c0) (hr1 : Kd.C (Kd.int .i64) w A1 l1.length l1) (hc1 : l1.length ≤ c1) (h : dioramaref00_EqInts.f k l0 l1 = some r) :
    Calls Tryz.prog 23 #[.slice A0 l0.length c0, .slice A1 l1.length c1] w fun e w' => e = .returned (.bool r) ∧ Drawn0 w w' := by
  have HR0 := Aside0.mk hr0
  have HC0 := Aside0.mk hc0
  clear hr0 hc0
  have HR1 := Aside0.mk hr1
  have HC1 := Aside0.mk hc1
  clear hr1 hc1
  have H : (if (l0.length : Int) = (l1.length : Int) then (dioramaref00_EqInts.l0 k l0 l1 0) else (some false)) = some r := h
  clear h
  by_cases c3 : (l0.length : Int) = (l1.length : Int)
  · rw [if_pos c3] at H
    have c3b0 : ((l0.length : Int) == (l1.length : Int)) = true := beq_iff_eq.mpr c3
    have c3b1 : ((l0.length : Int) != (l1.length : Int)) = false := bne_eq_false_iff_eq.mpr c3
    have c3b2 : (l0.length == l1.length) = true := by first | simpa using c3 | (simp at c3 ⊢; omega)
    clear c3
    have H' := Aside0.mk H
    clear H
    go_enter Tryz.func23, Tryz.ntmps23
    go_wp2
    repeat (go_quiet (fail); try go_wp2)
    go_loopg [5] k (fun kq v5 w' => ∃ (x5_1 : Int), v5 = .int .i64 x5_1 ∧ Aside0 (dioramaref00_EqInts.l0 kq l0 l1 x5_1 = some r) ∧ Aside0 (kq ≤ k) ∧ Drawn0 w w')
    case atStart => exact ⟨(0), (by first | rfl | (simp; done) | (simp [*]; done)), H', ⟨Nat.le_refl _⟩, by repeat (first | exact Drawn0.refl _ | apply Drawn0.step)⟩
    case round =>
      clear H'
      try clear c1
      try clear c2
      try clear p2
      try clear c3
      try clear c3b0
      try clear c3b1
      try clear c3b2
      obtain ⟨x5_1, rfl, HA, HK1, ⟨m1, rfl⟩⟩ := hrel
      cases gk with
      | zero => exact absurd HA.out (by simp [dioramaref00_EqInts.l0])
      | succ k1 =>
        have H := HA.out
        clear HA
        simp only [dioramaref00_EqInts.l0] at H
        by_cases c4 : x5_1 < (l0.length : Int)
        · rw [if_pos c4] at H
          have c4b0 : decide (x5_1 < (l0.length : Int)) = true := decide_eq_true c4
          clear c4
          by_cases c5 : 0 ≤ x5_1
          · rw [if_pos c5] at H
            have c5b0 : decide (0 ≤ x5_1) = true := decide_eq_true c5
            clear c5
            by_cases c6 : x5_1 < (l1.length : Int)
            · rw [if_pos c6] at H
              have c6b0 : decide (x5_1 < (l1.length : Int)) = true := decide_eq_true c6
              clear c6
              by_cases c7 : (rd l0 x5_1) = (rd l1 x5_1)
              · rw [if_pos c7] at H
                have c7b0 : ((rd l0 x5_1) == (rd l1 x5_1)) = true := beq_iff_eq.mpr c7
                have c7b1 : ((rd l0 x5_1) != (rd l1 x5_1)) = false := bne_eq_false_iff_eq.mpr c7
                clear c7
                have H' := Aside0.mk H
                clear H
                have p195 : 0 ≤ (x5_1 : Int) := of_decide_eq_true (by first | (with_reducible assumption) | assumption)
                have q195 : x5_1 < (l0.length : Int) := of_decide_eq_true (by first | (with_reducible assumption) | assumption)
                obtain ⟨ad195, e195, hx195_0⟩ := Kd.at_int HR0.out x5_1 p195 q195
                cases e195
                replace p195 := eq_true p195
                replace q195 := eq_true q195
                have p196 : 0 ≤ (x5_1 : Int) := of_decide_eq_true (by first | (with_reducible assumption) | assumption)
                have q196 : x5_1 < (l1.length : Int) := of_decide_eq_true (by first | (with_reducible assumption) | assumption)
                obtain ⟨ad196, e196, hx196_0⟩ := Kd.at_int HR1.out x5_1 p196 q196
                cases e196
                replace p196 := eq_true p196
                replace q196 := eq_true q196
                go_wp2
                repeat (go_quiet (fail); try go_wp2)
                go_roundg k1
                case measure => have := HK1.out; omega
                case rel => exact ⟨(wrap64 (x5_1 + 1)), (by first | rfl | (simp; done) | (simp [*]; done)), H', ⟨by have := HK1.out; omega⟩, by repeat (first | exact Drawn0.refl _ | apply Drawn0.step)⟩
              · rw [if_neg c7] at H
                have c7b0 : ((rd l0 x5_1) == (rd l1 x5_1)) = false := beq_eq_false_iff_ne.mpr c7
                have c7b1 : ((rd l0 x5_1) != (rd l1 x5_1)) = true := bne_iff_ne.mpr c7
                obtain rfl := Option.some.inj H
                have p195 : 0 ≤ (x5_1 : Int) := of_decide_eq_true (by first | (with_reducible assumption) | assumption)
                have q195 : x5_1 < (l0.length : Int) := of_decide_eq_true (by first | (with_reducible assumption) | assumption)
                obtain ⟨ad195, e195, hx195_0⟩ := Kd.at_int HR0.out x5_1 p195 q195
                cases e195
                replace p195 := eq_true p195
                replace q195 := eq_true q195
                have p196 : 0 ≤ (x5_1 : Int) := of_decide_eq_true (by first | (with_reducible assumption) | assumption)
                have q196 : x5_1 < (l1.length : Int) := of_decide_eq_true (by first | (with_reducible assumption) | assumption)
                obtain ⟨ad196, e196, hx196_0⟩ := Kd.at_int HR1.out x5_1 p196 q196
                cases e196
                replace p196 := eq_true p196
                replace q196 := eq_true q196
                go_wp2
                repeat (go_quiet (fail); try go_wp2)
                go_ret
                exact ⟨by first | rfl | (simp; done) | (simp [*]; done), by repeat (first | exact Drawn0.refl _ | apply Drawn0.step)⟩
            · rw [if_neg c6] at H
              exact absurd H (by simp)
          · rw [if_neg c5] at H
            exact absurd H (by simp)
        · rw [if_neg c4] at H
          have c4b0 : decide (x5_1 < (l0.length : Int)) = false := decide_eq_false c4
          clear c4
          obtain rfl := Option.some.inj H
          go_wp2
          repeat (go_quiet (fail); try go_wp2)
          go_ret
          exact ⟨by first | rfl | (simp; done) | (simp [*]; done), by repeat (first | exact Drawn0.refl _ | apply Drawn0.step)⟩
  · rw [if_neg c3] at H
    have c3b0 : ((l0.length : Int) == (l1.length : Int)) = false := beq_eq_false_iff_ne.mpr c3
    have c3b1 : ((l0.length : Int) != (l1.length : Int)) = true := bne_iff_ne.mpr c3
    have c3b2 : (l0.length == l1.length) = false := by first | simpa using c3 | (simp at c3 ⊢; omega)
    obtain rfl := Option.some.inj H
    go_enter Tryz.func23, Tryz.ntmps23
    go_wp2
    repeat (go_quiet (fail); try go_wp2)
    go_ret
    exact ⟨by first | rfl | (simp; done) | (simp [*]; done), by repeat (first | exact Drawn0.refl _ | apply Drawn0.step)⟩
end Go.Proofs.YtphkionjjhhhlaaGreat.Q
end
section
namespace Go.Proofs.YtphkionjjhhhlaaGreat.Q
open Go.RowKit Go.Proofs.YtphkionjjhhhlaaGreatW.PrintWords Go.Proofs.YtphkionjjhhhlaaGreatW.PrintLast Go.Proofs.YtphkionjjhhhlaaGreatW.PrintMore
def dioramaref00_EqRows.l0 : Nat → List (List Int) → List (List Int) → Int → Option (Bool)
  | 0, _, _, _ => none
  | k + 1, x0, x1, x5 => if x5 < (x0.length : Int) then (if 0 ≤ x5 then (if x5 < (x1.length : Int) then ((dioramaref00_EqInts.f k (rd_L1 x0 x5) (rd_L1 x1 x5)).bind fun t199 => (if t199 = true then (dioramaref00_EqRows.l0 k x0 x1 (wrap64 (x5 + 1))) else (some false))) else (none)) else (none)) else (some true)
def dioramaref00_EqRows.f (k : Nat) (l0 : List (List Int)) (l1 : List (List Int)) : Option (Bool) := if (l0.length : Int) = (l1.length : Int) then (dioramaref00_EqRows.l0 k l0 l1 0) else (some false)
set_option maxHeartbeats 8000000 in
set_option maxRecDepth 100000 in
theorem dioramaref00_EqRows.calls (k : Nat) (A0 : Option Addr) (c0 : Nat) (l0 : List (List Int)) (A1 : Option Addr) (c1 : Nat) (l1 : List (List Int)) (r : Bool) (w : World) (hr0 : Kd.C (Kd.slice 3 (Kd.int .i64)) w A0 l0.length l0) (hc0 : l0.length ≤ c0) (hr1 : Kd.C (Kd.slice 3 (Kd.int .i64)) w A1 l1.length l1) (hc1 : l1.length ≤ c1) (h : dioramaref00_EqRows.f k l0 l1 = some r) :
    Calls Tryz.prog 52 #[.slice A0 l0.length c0, .slice A1 l1.length c1] w fun e w' => e = .returned (.bool r) ∧ Drawn0 w w' := by
  have HR0 := Aside0.mk hr0
  have HC0 := Aside0.mk hc0
  clear hr0 hc0
  have HR1 := Aside0.mk hr1
  have HC1 := Aside0.mk hc1
  clear hr1 hc1
  have H : (if (l0.length : Int) = (l1.length : Int) then (dioramaref00_EqRows.l0 k l0 l1 0) else (some false)) = some r := h
  clear h
  by_cases c3 : (l0.length : Int) = (l1.length : Int)
  · rw [if_pos c3] at H
    have c3b0 : ((l0.length : Int) == (l1.length : Int)) = true := beq_iff_eq.mpr c3
    have c3b1 : ((l0.length : Int) != (l1.length : Int)) = false := bne_eq_false_iff_eq.mpr c3
    have c3b2 : (l0.length == l1.length) = true := by first | simpa using c3 | (simp at c3 ⊢; omega)
    clear c3
    have H' := Aside0.mk H
    clear H
    go_enter Tryz.func52, Tryz.ntmps52
    go_wp2
    repeat (go_quiet (fail); try go_wp2)
    go_loopg [5] k (fun kq v5 w' => ∃ (x5_1 : Int), v5 = .int .i64 x5_1 ∧ Aside0 (dioramaref00_EqRows.l0 kq l0 l1 x5_1 = some r) ∧ Aside0 (kq ≤ k) ∧ Drawn0 w w')
    case atStart => exact ⟨(0), (by first | rfl | (simp; done) | (simp [*]; done)), H', ⟨Nat.le_refl _⟩, by repeat (first | exact Drawn0.refl _ | apply Drawn0.step)⟩
    case round =>
      clear H'
      try clear c1
      try clear p2
      try clear c3
      try clear c3b0
      try clear c3b1
      try clear c3b2
      obtain ⟨x5_1, rfl, HA, HK1, ⟨m1, rfl⟩⟩ := hrel
      cases gk with
      | zero => exact absurd HA.out (by simp [dioramaref00_EqRows.l0])
      | succ k1 =>
        have H := HA.out
        clear HA
        simp only [dioramaref00_EqRows.l0] at H
        by_cases c4 : x5_1 < (l0.length : Int)
        · rw [if_pos c4] at H
          have c4b0 : decide (x5_1 < (l0.length : Int)) = true := decide_eq_true c4
          clear c4
          by_cases c5 : 0 ≤ x5_1
          · rw [if_pos c5] at H
            have c5b0 : decide (0 ≤ x5_1) = true := decide_eq_true c5
            clear c5
            by_cases c6 : x5_1 < (l1.length : Int)
            · rw [if_pos c6] at H
              have c6b0 : decide (x5_1 < (l1.length : Int)) = true := decide_eq_true c6
              clear c6
              replace H := Option.bind_eq_some_iff.mp H
              obtain ⟨t199, A70, H⟩ := H
              replace H : (if t199 = true then (dioramaref00_EqRows.l0 k1 l0 l1 (wrap64 (x5_1 + 1))) else (some false)) = some r := H
              have A7 := Aside0.mk A70
              clear A70
              by_cases c8 : t199 = true
              · subst c8
                have H1 : (dioramaref00_EqRows.l0 k1 l0 l1 (wrap64 (x5_1 + 1))) = some r := by rw [if_pos rfl] at H; exact H
                clear H
                have H := H1
                clear H1
                have H' := Aside0.mk H
                clear H
                have p197 : 0 ≤ (x5_1 : Int) := of_decide_eq_true (by first | (with_reducible assumption) | assumption)
                have q197 : x5_1 < (l0.length : Int) := of_decide_eq_true (by first | (with_reducible assumption) | assumption)
                obtain ⟨ad197, A197_0, c197_0, e197, hx197_0, hl197_0, hi197_0⟩ := at_L1 HR0.out x5_1 p197 q197
                cases e197
                have HR197_0 := Aside0.mk hi197_0
                have HC197_0 := Aside0.mk hl197_0
                clear hi197_0 hl197_0
                replace p197 := eq_true p197
                replace q197 := eq_true q197
                have p198 : 0 ≤ (x5_1 : Int) := of_decide_eq_true (by first | (with_reducible assumption) | assumption)
                have q198 : x5_1 < (l1.length : Int) := of_decide_eq_true (by first | (with_reducible assumption) | assumption)
                obtain ⟨ad198, A198_0, c198_0, e198, hx198_0, hl198_0, hi198_0⟩ := at_L1 HR1.out x5_1 p198 q198
                cases e198
                have HR198_0 := Aside0.mk hi198_0
                have HC198_0 := Aside0.mk hl198_0
                clear hi198_0 hl198_0
                replace p198 := eq_true p198
                replace q198 := eq_true q198
                go_wp2_with (first | (go_at_call 23; (with_reducible refine (dioramaref00_EqInts.calls k1 _ _ (rd_L1 l0 x5_1) _ _ (rd_L1 l1 x5_1) true _ ?side1 ?side2 ?side3 ?side4 A7.out).mono ?_); (case side1 => repeat (first | exact HR197_0.out | (with_reducible refine Kd.C_alloc ?_ _) | (with_reducible refine Kd.C_drewN ?_ _) | (with_reducible refine Kd.C_drew ?_))); (case side2 => exact HC197_0.out); (case side3 => repeat (first | exact HR198_0.out | (with_reducible refine Kd.C_alloc ?_ _) | (with_reducible refine Kd.C_drewN ?_ _) | (with_reducible refine Kd.C_drew ?_))); (case side4 => exact HC198_0.out); rintro e w' ⟨rfl, ⟨nd, rfl⟩⟩; (try first | exact ⟨rfl, _, World.drewN_drewN _ _ _⟩ | exact ⟨rfl, _, Eq.trans (World.drewN_drewN _ _ _) (congrArg (World.drewN _) (Nat.add_assoc _ _ _))⟩)))
                repeat (go_quiet (first | (go_at_call 23; (with_reducible refine (dioramaref00_EqInts.calls k1 _ _ (rd_L1 l0 x5_1) _ _ (rd_L1 l1 x5_1) true _ ?side1 ?side2 ?side3 ?side4 A7.out).mono ?_); (case side1 => repeat (first | exact HR197_0.out | (with_reducible refine Kd.C_alloc ?_ _) | (with_reducible refine Kd.C_drewN ?_ _) | (with_reducible refine Kd.C_drew ?_))); (case side2 => exact HC197_0.out); (case side3 => repeat (first | exact HR198_0.out | (with_reducible refine Kd.C_alloc ?_ _) | (with_reducible refine Kd.C_drewN ?_ _) | (with_reducible refine Kd.C_drew ?_))); (case side4 => exact HC198_0.out); rintro e w' ⟨rfl, ⟨nd, rfl⟩⟩; (try first | exact ⟨rfl, _, World.drewN_drewN _ _ _⟩ | exact ⟨rfl, _, Eq.trans (World.drewN_drewN _ _ _) (congrArg (World.drewN _) (Nat.add_assoc _ _ _))⟩))); try go_wp2_with (first | (go_at_call 23; (with_reducible refine (dioramaref00_EqInts.calls k1 _ _ (rd_L1 l0 x5_1) _ _ (rd_L1 l1 x5_1) true _ ?side1 ?side2 ?side3 ?side4 A7.out).mono ?_); (case side1 => repeat (first | exact HR197_0.out | (with_reducible refine Kd.C_alloc ?_ _) | (with_reducible refine Kd.C_drewN ?_ _) | (with_reducible refine Kd.C_drew ?_))); (case side2 => exact HC197_0.out); (case side3 => repeat (first | exact HR198_0.out | (with_reducible refine Kd.C_alloc ?_ _) | (with_reducible refine Kd.C_drewN ?_ _) | (with_reducible refine Kd.C_drew ?_))); (case side4 => exact HC198_0.out); rintro e w' ⟨rfl, ⟨nd, rfl⟩⟩; (try first | exact ⟨rfl, _, World.drewN_drewN _ _ _⟩ | exact ⟨rfl, _, Eq.trans (World.drewN_drewN _ _ _) (congrArg (World.drewN _) (Nat.add_assoc _ _ _))⟩))))
                go_roundg k1
                case measure => have := HK1.out; omega
                case rel => exact ⟨(wrap64 (x5_1 + 1)), (by first | rfl | (simp; done) | (simp [*]; done)), H', ⟨by have := HK1.out; omega⟩, by repeat (first | exact Drawn0.refl _ | apply Drawn0.step)⟩
              · replace c8 := Bool.eq_false_iff.mpr c8
                subst c8
                have H1 : (some false) = some r := by rw [if_neg (show ¬ (false = true) by decide)] at H; exact H
                clear H
                have H := H1
                clear H1
                obtain rfl := Option.some.inj H
                have p197 : 0 ≤ (x5_1 : Int) := of_decide_eq_true (by first | (with_reducible assumption) | assumption)
                have q197 : x5_1 < (l0.length : Int) := of_decide_eq_true (by first | (with_reducible assumption) | assumption)
                obtain ⟨ad197, A197_0, c197_0, e197, hx197_0, hl197_0, hi197_0⟩ := at_L1 HR0.out x5_1 p197 q197
                cases e197
                have HR197_0 := Aside0.mk hi197_0
                have HC197_0 := Aside0.mk hl197_0
                clear hi197_0 hl197_0
                replace p197 := eq_true p197
                replace q197 := eq_true q197
                have p198 : 0 ≤ (x5_1 : Int) := of_decide_eq_true (by first | (with_reducible assumption) | assumption)
                have q198 : x5_1 < (l1.length : Int) := of_decide_eq_true (by first | (with_reducible assumption) | assumption)
                obtain ⟨ad198, A198_0, c198_0, e198, hx198_0, hl198_0, hi198_0⟩ := at_L1 HR1.out x5_1 p198 q198
                cases e198
                have HR198_0 := Aside0.mk hi198_0
                have HC198_0 := Aside0.mk hl198_0
                clear hi198_0 hl198_0
                replace p198 := eq_true p198
                replace q198 := eq_true q198
                go_wp2_with (first | (go_at_call 23; (with_reducible refine (dioramaref00_EqInts.calls k1 _ _ (rd_L1 l0 x5_1) _ _ (rd_L1 l1 x5_1) false _ ?side1 ?side2 ?side3 ?side4 A7.out).mono ?_); (case side1 => repeat (first | exact HR197_0.out | (with_reducible refine Kd.C_alloc ?_ _) | (with_reducible refine Kd.C_drewN ?_ _) | (with_reducible refine Kd.C_drew ?_))); (case side2 => exact HC197_0.out); (case side3 => repeat (first | exact HR198_0.out | (with_reducible refine Kd.C_alloc ?_ _) | (with_reducible refine Kd.C_drewN ?_ _) | (with_reducible refine Kd.C_drew ?_))); (case side4 => exact HC198_0.out); rintro e w' ⟨rfl, ⟨nd, rfl⟩⟩; (try first | exact ⟨rfl, _, World.drewN_drewN _ _ _⟩ | exact ⟨rfl, _, Eq.trans (World.drewN_drewN _ _ _) (congrArg (World.drewN _) (Nat.add_assoc _ _ _))⟩)))
                repeat (go_quiet (first | (go_at_call 23; (with_reducible refine (dioramaref00_EqInts.calls k1 _ _ (rd_L1 l0 x5_1) _ _ (rd_L1 l1 x5_1) false _ ?side1 ?side2 ?side3 ?side4 A7.out).mono ?_); (case side1 => repeat (first | exact HR197_0.out | (with_reducible refine Kd.C_alloc ?_ _) | (with_reducible refine Kd.C_drewN ?_ _) | (with_reducible refine Kd.C_drew ?_))); (case side2 => exact HC197_0.out); (case side3 => repeat (first | exact HR198_0.out | (with_reducible refine Kd.C_alloc ?_ _) | (with_reducible refine Kd.C_drewN ?_ _) | (with_reducible refine Kd.C_drew ?_))); (case side4 => exact HC198_0.out); rintro e w' ⟨rfl, ⟨nd, rfl⟩⟩; (try first | exact ⟨rfl, _, World.drewN_drewN _ _ _⟩ | exact ⟨rfl, _, Eq.trans (World.drewN_drewN _ _ _) (congrArg (World.drewN _) (Nat.add_assoc _ _ _))⟩))); try go_wp2_with (first | (go_at_call 23; (with_reducible refine (dioramaref00_EqInts.calls k1 _ _ (rd_L1 l0 x5_1) _ _ (rd_L1 l1 x5_1) false _ ?side1 ?side2 ?side3 ?side4 A7.out).mono ?_); (case side1 => repeat (first | exact HR197_0.out | (with_reducible refine Kd.C_alloc ?_ _) | (with_reducible refine Kd.C_drewN ?_ _) | (with_reducible refine Kd.C_drew ?_))); (case side2 => exact HC197_0.out); (case side3 => repeat (first | exact HR198_0.out | (with_reducible refine Kd.C_alloc ?_ _) | (with_reducible refine Kd.C_drewN ?_ _) | (with_reducible refine Kd.C_drew ?_))); (case side4 => exact HC198_0.out); rintro e w' ⟨rfl, ⟨nd, rfl⟩⟩; (try first | exact ⟨rfl, _, World.drewN_drewN _ _ _⟩ | exact ⟨rfl, _, Eq.trans (World.drewN_drewN _ _ _) (congrArg (World.drewN _) (Nat.add_assoc _ _ _))⟩))))
                go_ret
                exact ⟨by first | rfl | (simp; done) | (simp [*]; done), by repeat (first | exact Drawn0.refl _ | apply Drawn0.step)⟩
            · rw [if_neg c6] at H
              exact absurd H (by simp)
          · rw [if_neg c5] at H
            exact absurd H (by simp)
        · rw [if_neg c4] at H
          have c4b0 : decide (x5_1 < (l0.length : Int)) = false := decide_eq_false c4
          clear c4
          obtain rfl := Option.some.inj H
          go_wp2
          repeat (go_quiet (fail); try go_wp2)
          go_ret
          exact ⟨by first | rfl | (simp; done) | (simp [*]; done), by repeat (first | exact Drawn0.refl _ | apply Drawn0.step)⟩
  · rw [if_neg c3] at H
    have c3b0 : ((l0.length : Int) == (l1.length : Int)) = false := beq_eq_false_iff_ne.mpr c3
    have c3b1 : ((l0.length : Int) != (l1.length : Int)) = true := bne_iff_ne.mpr c3
    have c3b2 : (l0.length == l1.length) = false := by first | simpa using c3 | (simp at c3 ⊢; omega)
    obtain rfl := Option.some.inj H
    go_enter Tryz.func52, Tryz.ntmps52
    go_wp2
    repeat (go_quiet (fail); try go_wp2)
    go_ret
    exact ⟨by first | rfl | (simp; done) | (simp [*]; done), by repeat (first | exact Drawn0.refl _ | apply Drawn0.step)⟩
end Go.Proofs.YtphkionjjhhhlaaGreat.Q
end
section
namespace Go.Proofs.YtphkionjjhhhlaaGreat.Q
open Go.RowKit Go.Proofs.YtphkionjjhhhlaaGreatW.PrintWords Go.Proofs.YtphkionjjhhhlaaGreatW.PrintLast Go.Proofs.YtphkionjjhhhlaaGreatW.PrintMore
def dioramaref00_EqImage.f (k : Nat) (a0_0 : Int) (a0_1 : Int) (a0_2 : Int) (l0_3 : List (List Int)) (a1_0 : Int) (a1_1 : Int) (a1_2 : Int) (l1_3 : List (List Int)) : Option (Bool) := if a0_0 = a1_0 then (if a0_1 = a1_1 then (if a0_2 = a1_2 then ((dioramaref00_EqRows.f k l0_3 l1_3).bind fun t202 => (some t202)) else (some false)) else (some false)) else (some false)
set_option maxHeartbeats 8000000 in
set_option maxRecDepth 100000 in
theorem dioramaref00_EqImage.calls (k : Nat) (a0_0 : Int) (a0_1 : Int) (a0_2 : Int) (A0_3 : Option Addr) (c0_3 : Nat) (l0_3 : List (List Int)) (a1_0 : Int) (a1_1 : Int) (a1_2 : Int) (A1_3 : Option Addr) (c1_3 : Nat) (l1_3 : List (List Int)) (r : Bool) (w : World) (hr0_3 : Kd.C (Kd.slice 3 (Kd.int .i64)) w A0_3 l0_3.length l0_3) (hc0_3 : l0_3.length ≤ c0_3) (hr1_3 : Kd.C (Kd.slice 3 (Kd.int .i64)) w A1_3 l1_3.length l1_3) (hc1_3 : l1_3.length ≤ c1_3) (h : dioramaref00_EqImage.f k a0_0 a0_1 a0_2 l0_3 a1_0 a1_1 a1_2 l1_3 = some r) :
    Calls Tryz.prog 15 #[.agg #[.int .i64 a0_0, .int .i64 a0_1, .int .i64 a0_2, .slice A0_3 l0_3.length c0_3], .agg #[.int .i64 a1_0, .int .i64 a1_1, .int .i64 a1_2, .slice A1_3 l1_3.length c1_3]] w fun e w' => e = .returned (.bool r) ∧ Below w.heap.size w w' := by
  have hu24 := Tryz.underlying24
  have HR0_3 := Aside0.mk hr0_3
  have HC0_3 := Aside0.mk hc0_3
  clear hr0_3 hc0_3
  have HR1_3 := Aside0.mk hr1_3
  have HC1_3 := Aside0.mk hc1_3
  clear hr1_3 hc1_3
  have HB := Aside0.mk (Below.refl w.heap.size w)
  have H : (if a0_0 = a1_0 then (if a0_1 = a1_1 then (if a0_2 = a1_2 then ((dioramaref00_EqRows.f k l0_3 l1_3).bind fun t202 => (some t202)) else (some false)) else (some false)) else (some false)) = some r := h
  clear h
  by_cases c3 : a0_0 = a1_0
  · rw [if_pos c3] at H
    have c3b0 : (a0_0 == a1_0) = true := beq_iff_eq.mpr c3
    have c3b1 : (a0_0 != a1_0) = false := bne_eq_false_iff_eq.mpr c3
    clear c3
    by_cases c4 : a0_1 = a1_1
    · rw [if_pos c4] at H
      have c4b0 : (a0_1 == a1_1) = true := beq_iff_eq.mpr c4
      have c4b1 : (a0_1 != a1_1) = false := bne_eq_false_iff_eq.mpr c4
      clear c4
      by_cases c5 : a0_2 = a1_2
      · rw [if_pos c5] at H
        have c5b0 : (a0_2 == a1_2) = true := beq_iff_eq.mpr c5
        have c5b1 : (a0_2 != a1_2) = false := bne_eq_false_iff_eq.mpr c5
        clear c5
        replace H := Option.bind_eq_some_iff.mp H
        obtain ⟨t202, A60, H⟩ := H
        replace H : (some t202) = some r := H
        have A6 := Aside0.mk A60
        clear A60
        obtain rfl := Option.some.inj H
        go_enter Tryz.func15, Tryz.ntmps15
        go_wp2_with (first | ((with_reducible refine gate_dst (N := 2) rfl ?_); refine box_event ?hg (N := 2) ?hd (cs := #[.int .i64 a0_0, .int .i64 a0_1, .int .i64 a0_2, .slice A0_3 l0_3.length c0_3]) (t := 24) ?hr ?_; (case hd => rfl); (case hg => rfl); (case hr => first | (go_simp; done) | (go_simp; rfl)); intro gb200 hg w7 hbox hb; have n0_ := Aside0.mk (below_step (by repeat (first | (with_reducible first | exact HB.out | apply below_alloc | apply pw_below_drewN | apply below_drew1) | exact HB.out)) hb); have n1_ := Aside0.mk (hbox); have n2_ := Aside0.mk ((by rw [hg]; exact (below_size (by repeat (first | (with_reducible first | exact HB.out | apply below_alloc | apply pw_below_drewN | apply below_drew1) | exact HB.out))) : w.heap.size ≤ gb200)); have n3_ := Aside0.mk ((by rw [hg]; exact (below_size (by repeat (first | (with_reducible first | exact HB.out | apply below_alloc | apply pw_below_drewN | apply below_drew1) | exact HB.out))) : w.heap.size ≤ gb200)); clear HB; have HB := n0_; have BK200 := n1_; have GW200 := n2_; have GE200 := n3_; clear n0_ n1_ n2_ n3_; clear hb hbox hg) | ((with_reducible refine gate_dst (N := 3) rfl ?_); refine box_event ?hg (N := 3) ?hd (cs := #[.int .i64 a1_0, .int .i64 a1_1, .int .i64 a1_2, .slice A1_3 l1_3.length c1_3]) (t := 24) ?hr ?_; (case hd => rfl); (case hg => rfl); (case hr => first | (go_simp; done) | (go_simp; rfl)); intro gb201 hg w8 hbox hb; have n0_ := Aside0.mk (blk_below (g := gb200) (o := .cells #[.int .i64 a0_0, .int .i64 a0_1, .int .i64 a0_2, .slice A0_3 l0_3.length c0_3] 24 (0, 0)) (by (with_reducible repeat (first | refine blk_drewN ?_ _ | refine blk_drew ?_ | refine blk_alloc ?_ _)); exact BK200.out) hb); have n1_ := Aside0.mk (below_step (by repeat (first | (with_reducible first | exact HB.out | apply below_alloc | apply pw_below_drewN | apply below_drew1 | refine below_set ?_ GE200.out) | exact HB.out)) hb); have n2_ := Aside0.mk (hbox); have n3_ := Aside0.mk ((by rw [hg]; exact (below_size (by repeat (first | (with_reducible first | exact HB.out | apply below_alloc | apply pw_below_drewN | apply below_drew1 | refine below_set ?_ GE200.out) | exact HB.out))) : w.heap.size ≤ gb201)); have n4_ := Aside0.mk ((by rw [hg]; exact (below_size (by repeat (first | (with_reducible first | exact HB.out | apply below_alloc | apply pw_below_drewN | apply below_drew1 | refine below_set ?_ GE200.out) | exact HB.out))) : w.heap.size ≤ gb201)); have n5_ := Aside0.mk ((by rw [hg]; exact Nat.ne_of_lt (blk_lt (g := gb200) (o := .cells #[.int .i64 a0_0, .int .i64 a0_1, .int .i64 a0_2, .slice A0_3 l0_3.length c0_3] 24 (0, 0)) (by (with_reducible repeat (first | refine blk_drewN ?_ _ | refine blk_drew ?_ | refine blk_alloc ?_ _)); exact BK200.out)) : gb200 ≠ gb201)); have n6_ := Aside0.mk ((by rw [hg]; exact Nat.ne_of_gt (blk_lt (g := gb200) (o := .cells #[.int .i64 a0_0, .int .i64 a0_1, .int .i64 a0_2, .slice A0_3 l0_3.length c0_3] 24 (0, 0)) (by (with_reducible repeat (first | refine blk_drewN ?_ _ | refine blk_drew ?_ | refine blk_alloc ?_ _)); exact BK200.out)) : gb201 ≠ gb200)); clear BK200; clear HB; have BK200 := n0_; have HB := n1_; have BK201 := n2_; have GW201 := n3_; have GE201 := n4_; have NB200_201 := n5_; have NB201_200 := n6_; clear n0_ n1_ n2_ n3_ n4_ n5_ n6_; clear hb hbox hg; have hnb9 := NB200_201.out; have hnc9 := NB201_200.out; have hcz10_0 : w8.cell? ⟨gb200, 0, none⟩ = some (.int .i64 a0_0) := (blk_cell BK200.out 0).trans rfl; have hcz10_1 : w8.cell? ⟨gb200, 1, none⟩ = some (.int .i64 a0_1) := (blk_cell BK200.out 1).trans rfl; have hcz10_2 : w8.cell? ⟨gb200, 2, none⟩ = some (.int .i64 a0_2) := (blk_cell BK200.out 2).trans rfl; have hcz10_3 : w8.cell? ⟨gb200, 3, none⟩ = some (.slice A0_3 l0_3.length c0_3) := (blk_cell BK200.out 3).trans rfl; have hfz10_0 := blk_frozen BK200.out 0; have hfz10_1 := blk_frozen BK200.out 1; have hfz10_2 := blk_frozen BK200.out 2; have hfz10_3 := blk_frozen BK200.out 3; have hcz11_0 : w8.cell? ⟨gb201, 0, none⟩ = some (.int .i64 a1_0) := (blk_cell BK201.out 0).trans rfl; have hcz11_1 : w8.cell? ⟨gb201, 1, none⟩ = some (.int .i64 a1_1) := (blk_cell BK201.out 1).trans rfl; have hcz11_2 : w8.cell? ⟨gb201, 2, none⟩ = some (.int .i64 a1_2) := (blk_cell BK201.out 2).trans rfl; have hcz11_3 : w8.cell? ⟨gb201, 3, none⟩ = some (.slice A1_3 l1_3.length c1_3) := (blk_cell BK201.out 3).trans rfl; have hfz11_0 := blk_frozen BK201.out 0; have hfz11_1 := blk_frozen BK201.out 1; have hfz11_2 := blk_frozen BK201.out 2; have hfz11_3 := blk_frozen BK201.out 3) | (go_at_call 52; (with_reducible refine (dioramaref00_EqRows.calls k _ _ l0_3 _ _ l1_3 t202 _ ?side1 ?side2 ?side3 ?side4 A6.out).mono ?_); (case side1 => repeat (first | exact (Kd.C_below HR0_3.out HB.out) | (with_reducible refine Kd.C_alloc ?_ _) | (with_reducible refine Kd.C_drewN ?_ _) | (with_reducible refine Kd.C_drew ?_))); (case side2 => exact HC0_3.out); (case side3 => repeat (first | exact (Kd.C_below HR1_3.out HB.out) | (with_reducible refine Kd.C_alloc ?_ _) | (with_reducible refine Kd.C_drewN ?_ _) | (with_reducible refine Kd.C_drew ?_))); (case side4 => exact HC1_3.out); rintro e w' ⟨rfl, ⟨nd, rfl⟩⟩))
        go_ret
        exact ⟨by first | rfl | (simp [errW_none, errW_some] <;> rfl) | (simp [*, errW_none, errW_some] <;> rfl), by repeat (first | (with_reducible first | exact HB.out | apply below_alloc | apply pw_below_drewN | apply below_drew1 | refine below_set ?_ GE200.out | refine below_set ?_ GE201.out) | exact HB.out)⟩
      · rw [if_neg c5] at H
        have c5b0 : (a0_2 == a1_2) = false := beq_eq_false_iff_ne.mpr c5
        have c5b1 : (a0_2 != a1_2) = true := bne_iff_ne.mpr c5
        obtain rfl := Option.some.inj H
        go_enter Tryz.func15, Tryz.ntmps15
        go_wp2_with (first | ((with_reducible refine gate_dst (N := 2) rfl ?_); refine box_event ?hg (N := 2) ?hd (cs := #[.int .i64 a0_0, .int .i64 a0_1, .int .i64 a0_2, .slice A0_3 l0_3.length c0_3]) (t := 24) ?hr ?_; (case hd => rfl); (case hg => rfl); (case hr => first | (go_simp; done) | (go_simp; rfl)); intro gb200 hg w12 hbox hb; have n0_ := Aside0.mk (below_step (by repeat (first | (with_reducible first | exact HB.out | apply below_alloc | apply pw_below_drewN | apply below_drew1) | exact HB.out)) hb); have n1_ := Aside0.mk (hbox); have n2_ := Aside0.mk ((by rw [hg]; exact (below_size (by repeat (first | (with_reducible first | exact HB.out | apply below_alloc | apply pw_below_drewN | apply below_drew1) | exact HB.out))) : w.heap.size ≤ gb200)); have n3_ := Aside0.mk ((by rw [hg]; exact (below_size (by repeat (first | (with_reducible first | exact HB.out | apply below_alloc | apply pw_below_drewN | apply below_drew1) | exact HB.out))) : w.heap.size ≤ gb200)); clear HB; have HB := n0_; have BK200 := n1_; have GW200 := n2_; have GE200 := n3_; clear n0_ n1_ n2_ n3_; clear hb hbox hg) | ((with_reducible refine gate_dst (N := 3) rfl ?_); refine box_event ?hg (N := 3) ?hd (cs := #[.int .i64 a1_0, .int .i64 a1_1, .int .i64 a1_2, .slice A1_3 l1_3.length c1_3]) (t := 24) ?hr ?_; (case hd => rfl); (case hg => rfl); (case hr => first | (go_simp; done) | (go_simp; rfl)); intro gb201 hg w13 hbox hb; have n0_ := Aside0.mk (blk_below (g := gb200) (o := .cells #[.int .i64 a0_0, .int .i64 a0_1, .int .i64 a0_2, .slice A0_3 l0_3.length c0_3] 24 (0, 0)) (by (with_reducible repeat (first | refine blk_drewN ?_ _ | refine blk_drew ?_ | refine blk_alloc ?_ _)); exact BK200.out) hb); have n1_ := Aside0.mk (below_step (by repeat (first | (with_reducible first | exact HB.out | apply below_alloc | apply pw_below_drewN | apply below_drew1 | refine below_set ?_ GE200.out) | exact HB.out)) hb); have n2_ := Aside0.mk (hbox); have n3_ := Aside0.mk ((by rw [hg]; exact (below_size (by repeat (first | (with_reducible first | exact HB.out | apply below_alloc | apply pw_below_drewN | apply below_drew1 | refine below_set ?_ GE200.out) | exact HB.out))) : w.heap.size ≤ gb201)); have n4_ := Aside0.mk ((by rw [hg]; exact (below_size (by repeat (first | (with_reducible first | exact HB.out | apply below_alloc | apply pw_below_drewN | apply below_drew1 | refine below_set ?_ GE200.out) | exact HB.out))) : w.heap.size ≤ gb201)); have n5_ := Aside0.mk ((by rw [hg]; exact Nat.ne_of_lt (blk_lt (g := gb200) (o := .cells #[.int .i64 a0_0, .int .i64 a0_1, .int .i64 a0_2, .slice A0_3 l0_3.length c0_3] 24 (0, 0)) (by (with_reducible repeat (first | refine blk_drewN ?_ _ | refine blk_drew ?_ | refine blk_alloc ?_ _)); exact BK200.out)) : gb200 ≠ gb201)); have n6_ := Aside0.mk ((by rw [hg]; exact Nat.ne_of_gt (blk_lt (g := gb200) (o := .cells #[.int .i64 a0_0, .int .i64 a0_1, .int .i64 a0_2, .slice A0_3 l0_3.length c0_3] 24 (0, 0)) (by (with_reducible repeat (first | refine blk_drewN ?_ _ | refine blk_drew ?_ | refine blk_alloc ?_ _)); exact BK200.out)) : gb201 ≠ gb200)); clear BK200; clear HB; have BK200 := n0_; have HB := n1_; have BK201 := n2_; have GW201 := n3_; have GE201 := n4_; have NB200_201 := n5_; have NB201_200 := n6_; clear n0_ n1_ n2_ n3_ n4_ n5_ n6_; clear hb hbox hg; have hnb14 := NB200_201.out; have hnc14 := NB201_200.out; have hcz15_0 : w13.cell? ⟨gb200, 0, none⟩ = some (.int .i64 a0_0) := (blk_cell BK200.out 0).trans rfl; have hcz15_1 : w13.cell? ⟨gb200, 1, none⟩ = some (.int .i64 a0_1) := (blk_cell BK200.out 1).trans rfl; have hcz15_2 : w13.cell? ⟨gb200, 2, none⟩ = some (.int .i64 a0_2) := (blk_cell BK200.out 2).trans rfl; have hcz15_3 : w13.cell? ⟨gb200, 3, none⟩ = some (.slice A0_3 l0_3.length c0_3) := (blk_cell BK200.out 3).trans rfl; have hfz15_0 := blk_frozen BK200.out 0; have hfz15_1 := blk_frozen BK200.out 1; have hfz15_2 := blk_frozen BK200.out 2; have hfz15_3 := blk_frozen BK200.out 3; have hcz16_0 : w13.cell? ⟨gb201, 0, none⟩ = some (.int .i64 a1_0) := (blk_cell BK201.out 0).trans rfl; have hcz16_1 : w13.cell? ⟨gb201, 1, none⟩ = some (.int .i64 a1_1) := (blk_cell BK201.out 1).trans rfl; have hcz16_2 : w13.cell? ⟨gb201, 2, none⟩ = some (.int .i64 a1_2) := (blk_cell BK201.out 2).trans rfl; have hcz16_3 : w13.cell? ⟨gb201, 3, none⟩ = some (.slice A1_3 l1_3.length c1_3) := (blk_cell BK201.out 3).trans rfl; have hfz16_0 := blk_frozen BK201.out 0; have hfz16_1 := blk_frozen BK201.out 1; have hfz16_2 := blk_frozen BK201.out 2; have hfz16_3 := blk_frozen BK201.out 3))
        go_ret
        exact ⟨by first | rfl | (simp [errW_none, errW_some] <;> rfl) | (simp [*, errW_none, errW_some] <;> rfl), by repeat (first | (with_reducible first | exact HB.out | apply below_alloc | apply pw_below_drewN | apply below_drew1 | refine below_set ?_ GE200.out | refine below_set ?_ GE201.out) | exact HB.out)⟩
    · rw [if_neg c4] at H
      have c4b0 : (a0_1 == a1_1) = false := beq_eq_false_iff_ne.mpr c4
      have c4b1 : (a0_1 != a1_1) = true := bne_iff_ne.mpr c4
      obtain rfl := Option.some.inj H
      go_enter Tryz.func15, Tryz.ntmps15
      go_wp2_with (first | ((with_reducible refine gate_dst (N := 2) rfl ?_); refine box_event ?hg (N := 2) ?hd (cs := #[.int .i64 a0_0, .int .i64 a0_1, .int .i64 a0_2, .slice A0_3 l0_3.length c0_3]) (t := 24) ?hr ?_; (case hd => rfl); (case hg => rfl); (case hr => first | (go_simp; done) | (go_simp; rfl)); intro gb200 hg w17 hbox hb; have n0_ := Aside0.mk (below_step (by repeat (first | (with_reducible first | exact HB.out | apply below_alloc | apply pw_below_drewN | apply below_drew1) | exact HB.out)) hb); have n1_ := Aside0.mk (hbox); have n2_ := Aside0.mk ((by rw [hg]; exact (below_size (by repeat (first | (with_reducible first | exact HB.out | apply below_alloc | apply pw_below_drewN | apply below_drew1) | exact HB.out))) : w.heap.size ≤ gb200)); have n3_ := Aside0.mk ((by rw [hg]; exact (below_size (by repeat (first | (with_reducible first | exact HB.out | apply below_alloc | apply pw_below_drewN | apply below_drew1) | exact HB.out))) : w.heap.size ≤ gb200)); clear HB; have HB := n0_; have BK200 := n1_; have GW200 := n2_; have GE200 := n3_; clear n0_ n1_ n2_ n3_; clear hb hbox hg) | ((with_reducible refine gate_dst (N := 3) rfl ?_); refine box_event ?hg (N := 3) ?hd (cs := #[.int .i64 a1_0, .int .i64 a1_1, .int .i64 a1_2, .slice A1_3 l1_3.length c1_3]) (t := 24) ?hr ?_; (case hd => rfl); (case hg => rfl); (case hr => first | (go_simp; done) | (go_simp; rfl)); intro gb201 hg w18 hbox hb; have n0_ := Aside0.mk (blk_below (g := gb200) (o := .cells #[.int .i64 a0_0, .int .i64 a0_1, .int .i64 a0_2, .slice A0_3 l0_3.length c0_3] 24 (0, 0)) (by (with_reducible repeat (first | refine blk_drewN ?_ _ | refine blk_drew ?_ | refine blk_alloc ?_ _)); exact BK200.out) hb); have n1_ := Aside0.mk (below_step (by repeat (first | (with_reducible first | exact HB.out | apply below_alloc | apply pw_below_drewN | apply below_drew1 | refine below_set ?_ GE200.out) | exact HB.out)) hb); have n2_ := Aside0.mk (hbox); have n3_ := Aside0.mk ((by rw [hg]; exact (below_size (by repeat (first | (with_reducible first | exact HB.out | apply below_alloc | apply pw_below_drewN | apply below_drew1 | refine below_set ?_ GE200.out) | exact HB.out))) : w.heap.size ≤ gb201)); have n4_ := Aside0.mk ((by rw [hg]; exact (below_size (by repeat (first | (with_reducible first | exact HB.out | apply below_alloc | apply pw_below_drewN | apply below_drew1 | refine below_set ?_ GE200.out) | exact HB.out))) : w.heap.size ≤ gb201)); have n5_ := Aside0.mk ((by rw [hg]; exact Nat.ne_of_lt (blk_lt (g := gb200) (o := .cells #[.int .i64 a0_0, .int .i64 a0_1, .int .i64 a0_2, .slice A0_3 l0_3.length c0_3] 24 (0, 0)) (by (with_reducible repeat (first | refine blk_drewN ?_ _ | refine blk_drew ?_ | refine blk_alloc ?_ _)); exact BK200.out)) : gb200 ≠ gb201)); have n6_ := Aside0.mk ((by rw [hg]; exact Nat.ne_of_gt (blk_lt (g := gb200) (o := .cells #[.int .i64 a0_0, .int .i64 a0_1, .int .i64 a0_2, .slice A0_3 l0_3.length c0_3] 24 (0, 0)) (by (with_reducible repeat (first | refine blk_drewN ?_ _ | refine blk_drew ?_ | refine blk_alloc ?_ _)); exact BK200.out)) : gb201 ≠ gb200)); clear BK200; clear HB; have BK200 := n0_; have HB := n1_; have BK201 := n2_; have GW201 := n3_; have GE201 := n4_; have NB200_201 := n5_; have NB201_200 := n6_; clear n0_ n1_ n2_ n3_ n4_ n5_ n6_; clear hb hbox hg; have hnb19 := NB200_201.out; have hnc19 := NB201_200.out; have hcz20_0 : w18.cell? ⟨gb200, 0, none⟩ = some (.int .i64 a0_0) := (blk_cell BK200.out 0).trans rfl; have hcz20_1 : w18.cell? ⟨gb200, 1, none⟩ = some (.int .i64 a0_1) := (blk_cell BK200.out 1).trans rfl; have hcz20_2 : w18.cell? ⟨gb200, 2, none⟩ = some (.int .i64 a0_2) := (blk_cell BK200.out 2).trans rfl; have hcz20_3 : w18.cell? ⟨gb200, 3, none⟩ = some (.slice A0_3 l0_3.length c0_3) := (blk_cell BK200.out 3).trans rfl; have hfz20_0 := blk_frozen BK200.out 0; have hfz20_1 := blk_frozen BK200.out 1; have hfz20_2 := blk_frozen BK200.out 2; have hfz20_3 := blk_frozen BK200.out 3; have hcz21_0 : w18.cell? ⟨gb201, 0, none⟩ = some (.int .i64 a1_0) := (blk_cell BK201.out 0).trans rfl; have hcz21_1 : w18.cell? ⟨gb201, 1, none⟩ = some (.int .i64 a1_1) := (blk_cell BK201.out 1).trans rfl; have hcz21_2 : w18.cell? ⟨gb201, 2, none⟩ = some (.int .i64 a1_2) := (blk_cell BK201.out 2).trans rfl; have hcz21_3 : w18.cell? ⟨gb201, 3, none⟩ = some (.slice A1_3 l1_3.length c1_3) := (blk_cell BK201.out 3).trans rfl; have hfz21_0 := blk_frozen BK201.out 0; have hfz21_1 := blk_frozen BK201.out 1; have hfz21_2 := blk_frozen BK201.out 2; have hfz21_3 := blk_frozen BK201.out 3))
      go_ret
      exact ⟨by first | rfl | (simp [errW_none, errW_some] <;> rfl) | (simp [*, errW_none, errW_some] <;> rfl), by repeat (first | (with_reducible first | exact HB.out | apply below_alloc | apply pw_below_drewN | apply below_drew1 | refine below_set ?_ GE200.out | refine below_set ?_ GE201.out) | exact HB.out)⟩
  · rw [if_neg c3] at H
    have c3b0 : (a0_0 == a1_0) = false := beq_eq_false_iff_ne.mpr c3
    have c3b1 : (a0_0 != a1_0) = true := bne_iff_ne.mpr c3
    obtain rfl := Option.some.inj H
    go_enter Tryz.func15, Tryz.ntmps15
    go_wp2_with (first | ((with_reducible refine gate_dst (N := 2) rfl ?_); refine box_event ?hg (N := 2) ?hd (cs := #[.int .i64 a0_0, .int .i64 a0_1, .int .i64 a0_2, .slice A0_3 l0_3.length c0_3]) (t := 24) ?hr ?_; (case hd => rfl); (case hg => rfl); (case hr => first | (go_simp; done) | (go_simp; rfl)); intro gb200 hg w22 hbox hb; have n0_ := Aside0.mk (below_step (by repeat (first | (with_reducible first | exact HB.out | apply below_alloc | apply pw_below_drewN | apply below_drew1) | exact HB.out)) hb); have n1_ := Aside0.mk (hbox); have n2_ := Aside0.mk ((by rw [hg]; exact (below_size (by repeat (first | (with_reducible first | exact HB.out | apply below_alloc | apply pw_below_drewN | apply below_drew1) | exact HB.out))) : w.heap.size ≤ gb200)); have n3_ := Aside0.mk ((by rw [hg]; exact (below_size (by repeat (first | (with_reducible first | exact HB.out | apply below_alloc | apply pw_below_drewN | apply below_drew1) | exact HB.out))) : w.heap.size ≤ gb200)); clear HB; have HB := n0_; have BK200 := n1_; have GW200 := n2_; have GE200 := n3_; clear n0_ n1_ n2_ n3_; clear hb hbox hg) | ((with_reducible refine gate_dst (N := 3) rfl ?_); refine box_event ?hg (N := 3) ?hd (cs := #[.int .i64 a1_0, .int .i64 a1_1, .int .i64 a1_2, .slice A1_3 l1_3.length c1_3]) (t := 24) ?hr ?_; (case hd => rfl); (case hg => rfl); (case hr => first | (go_simp; done) | (go_simp; rfl)); intro gb201 hg w23 hbox hb; have n0_ := Aside0.mk (blk_below (g := gb200) (o := .cells #[.int .i64 a0_0, .int .i64 a0_1, .int .i64 a0_2, .slice A0_3 l0_3.length c0_3] 24 (0, 0)) (by (with_reducible repeat (first | refine blk_drewN ?_ _ | refine blk_drew ?_ | refine blk_alloc ?_ _)); exact BK200.out) hb); have n1_ := Aside0.mk (below_step (by repeat (first | (with_reducible first | exact HB.out | apply below_alloc | apply pw_below_drewN | apply below_drew1 | refine below_set ?_ GE200.out) | exact HB.out)) hb); have n2_ := Aside0.mk (hbox); have n3_ := Aside0.mk ((by rw [hg]; exact (below_size (by repeat (first | (with_reducible first | exact HB.out | apply below_alloc | apply pw_below_drewN | apply below_drew1 | refine below_set ?_ GE200.out) | exact HB.out))) : w.heap.size ≤ gb201)); have n4_ := Aside0.mk ((by rw [hg]; exact (below_size (by repeat (first | (with_reducible first | exact HB.out | apply below_alloc | apply pw_below_drewN | apply below_drew1 | refine below_set ?_ GE200.out) | exact HB.out))) : w.heap.size ≤ gb201)); have n5_ := Aside0.mk ((by rw [hg]; exact Nat.ne_of_lt (blk_lt (g := gb200) (o := .cells #[.int .i64 a0_0, .int .i64 a0_1, .int .i64 a0_2, .slice A0_3 l0_3.length c0_3] 24 (0, 0)) (by (with_reducible repeat (first | refine blk_drewN ?_ _ | refine blk_drew ?_ | refine blk_alloc ?_ _)); exact BK200.out)) : gb200 ≠ gb201)); have n6_ := Aside0.mk ((by rw [hg]; exact Nat.ne_of_gt (blk_lt (g := gb200) (o := .cells #[.int .i64 a0_0, .int .i64 a0_1, .int .i64 a0_2, .slice A0_3 l0_3.length c0_3] 24 (0, 0)) (by (with_reducible repeat (first | refine blk_drewN ?_ _ | refine blk_drew ?_ | refine blk_alloc ?_ _)); exact BK200.out)) : gb201 ≠ gb200)); clear BK200; clear HB; have BK200 := n0_; have HB := n1_; have BK201 := n2_; have GW201 := n3_; have GE201 := n4_; have NB200_201 := n5_; have NB201_200 := n6_; clear n0_ n1_ n2_ n3_ n4_ n5_ n6_; clear hb hbox hg; have hnb24 := NB200_201.out; have hnc24 := NB201_200.out; have hcz25_0 : w23.cell? ⟨gb200, 0, none⟩ = some (.int .i64 a0_0) := (blk_cell BK200.out 0).trans rfl; have hcz25_1 : w23.cell? ⟨gb200, 1, none⟩ = some (.int .i64 a0_1) := (blk_cell BK200.out 1).trans rfl; have hcz25_2 : w23.cell? ⟨gb200, 2, none⟩ = some (.int .i64 a0_2) := (blk_cell BK200.out 2).trans rfl; have hcz25_3 : w23.cell? ⟨gb200, 3, none⟩ = some (.slice A0_3 l0_3.length c0_3) := (blk_cell BK200.out 3).trans rfl; have hfz25_0 := blk_frozen BK200.out 0; have hfz25_1 := blk_frozen BK200.out 1; have hfz25_2 := blk_frozen BK200.out 2; have hfz25_3 := blk_frozen BK200.out 3; have hcz26_0 : w23.cell? ⟨gb201, 0, none⟩ = some (.int .i64 a1_0) := (blk_cell BK201.out 0).trans rfl; have hcz26_1 : w23.cell? ⟨gb201, 1, none⟩ = some (.int .i64 a1_1) := (blk_cell BK201.out 1).trans rfl; have hcz26_2 : w23.cell? ⟨gb201, 2, none⟩ = some (.int .i64 a1_2) := (blk_cell BK201.out 2).trans rfl; have hcz26_3 : w23.cell? ⟨gb201, 3, none⟩ = some (.slice A1_3 l1_3.length c1_3) := (blk_cell BK201.out 3).trans rfl; have hfz26_0 := blk_frozen BK201.out 0; have hfz26_1 := blk_frozen BK201.out 1; have hfz26_2 := blk_frozen BK201.out 2; have hfz26_3 := blk_frozen BK201.out 3))
    go_ret
    exact ⟨by first | rfl | (simp [errW_none, errW_some] <;> rfl) | (simp [*, errW_none, errW_some] <;> rfl), by repeat (first | (with_reducible first | exact HB.out | apply below_alloc | apply pw_below_drewN | apply below_drew1 | refine below_set ?_ GE200.out | refine below_set ?_ GE201.out) | exact HB.out)⟩
end Go.Proofs.YtphkionjjhhhlaaGreat.Q
end
section
namespace Go.Proofs.YtphkionjjhhhlaaGreat.Q
open Go.RowKit Go.Proofs.YtphkionjjhhhlaaGreatW.PrintWords Go.Proofs.YtphkionjjhhhlaaGreatW.PrintLast Go.Proofs.YtphkionjjhhhlaaGreatW.PrintMore
def item_Turn.f (a0_0 : Int) (a0_1 : Int) (a0_2 : Int) (l0_3 : List (List Int)) (a1 : Int) (a2 : Bool) : Option (Int × Int × Int × (List (List Int)) × Int) := (picture_Check.f a0_0 a0_1 a0_2 l0_3).bind fun t117 => (if t117 = 0 then ((item_within.f a1 0 3).bind fun t118 => (if t118 = true then ((item_turned.f a0_0 a0_1 a0_2 l0_3 a1 a2).bind fun bt119 => (some (bt119.1, bt119.2.1, bt119.2.2.1, bt119.2.2.2, 0))) else (some (0, 0, 0, ([] : List (List Int)), 1)))) else (some (0, 0, 0, ([] : List (List Int)), t117)))
set_option maxHeartbeats 8000000 in
set_option maxRecDepth 100000 in
theorem item_Turn.calls (a0_0 : Int) (a0_1 : Int) (a0_2 : Int) (A0_3 : Option Addr) (c0_3 : Nat) (l0_3 : List (List Int)) (a1 : Int) (a2 : Bool) (r1 : Int) (r2 : Int) (r3 : Int) (r4 : List (List Int)) (r5 : Int) (w : World) (hr0_3 : Kd.C (Kd.slice 3 (Kd.int .i64)) w A0_3 l0_3.length l0_3) (hc0_3 : l0_3.length ≤ c0_3) (h : item_Turn.f a0_0 a0_1 a0_2 l0_3 a1 a2 = some (r1, r2, r3, r4, r5)) :
    Calls Tryz.prog 13 #[.agg #[.int .i64 a0_0, .int .i64 a0_1, .int .i64 a0_2, .slice A0_3 l0_3.length c0_3], .int .i64 a1, .bool a2] w fun e w' => ∃ v3_ : Value, e = .returned (.tuple #[.agg #[.int .i64 r1, .int .i64 r2, .int .i64 r3, v3_], .int .i64 r5]) ∧ Kd.S (Kd.slice 3 (Kd.int .i64)) 39 w' w.heap.size (fun _ => True) v3_ r4 ∧ Below w.heap.size w w' := by
  have hu24 := Tryz.underlying24
  have HR0_3 := Aside0.mk hr0_3
  have HC0_3 := Aside0.mk hc0_3
  clear hr0_3 hc0_3
  have HB := Aside0.mk (Below.refl w.heap.size w)
  have H : ((picture_Check.f a0_0 a0_1 a0_2 l0_3).bind fun t117 => (if t117 = 0 then ((item_within.f a1 0 3).bind fun t118 => (if t118 = true then ((item_turned.f a0_0 a0_1 a0_2 l0_3 a1 a2).bind fun bt119 => (some (bt119.1, bt119.2.1, bt119.2.2.1, bt119.2.2.2, 0))) else (some (0, 0, 0, ([] : List (List Int)), 1)))) else (some (0, 0, 0, ([] : List (List Int)), t117)))) = some (r1, r2, r3, r4, r5) := h
  clear h
  replace H := Option.bind_eq_some_iff.mp H
  obtain ⟨t117, A40, H⟩ := H
  replace H : (if t117 = 0 then ((item_within.f a1 0 3).bind fun t118 => (if t118 = true then ((item_turned.f a0_0 a0_1 a0_2 l0_3 a1 a2).bind fun bt119 => (some (bt119.1, bt119.2.1, bt119.2.2.1, bt119.2.2.2, 0))) else (some (0, 0, 0, ([] : List (List Int)), 1)))) else (some (0, 0, 0, ([] : List (List Int)), t117))) = some (r1, r2, r3, r4, r5) := H
  have A4 := Aside0.mk A40
  clear A40
  by_cases c5 : t117 = 0
  · rw [if_pos c5] at H
    have c5b0 : (t117 == 0) = true := beq_iff_eq.mpr c5
    have c5b1 : (t117 != 0) = false := bne_eq_false_iff_eq.mpr c5
    clear c5
    replace H := Option.bind_eq_some_iff.mp H
    obtain ⟨t118, A60, H⟩ := H
    replace H : (if t118 = true then ((item_turned.f a0_0 a0_1 a0_2 l0_3 a1 a2).bind fun bt119 => (some (bt119.1, bt119.2.1, bt119.2.2.1, bt119.2.2.2, 0))) else (some (0, 0, 0, ([] : List (List Int)), 1))) = some (r1, r2, r3, r4, r5) := H
    have A6 := Aside0.mk A60
    clear A60
    by_cases c7 : t118 = true
    · subst c7
      have H1 : ((item_turned.f a0_0 a0_1 a0_2 l0_3 a1 a2).bind fun bt119 => (some (bt119.1, bt119.2.1, bt119.2.2.1, bt119.2.2.2, 0))) = some (r1, r2, r3, r4, r5) := by rw [if_pos rfl] at H; exact H
      clear H
      have H := H1
      clear H1
      replace H := Option.bind_eq_some_iff.mp H
      obtain ⟨⟨t119, t120, t121, t122⟩, A80, H⟩ := H
      replace H : (some (t119, t120, t121, t122, 0)) = some (r1, r2, r3, r4, r5) := H
      have A8 := Aside0.mk A80
      clear A80
      simp only [Option.some.injEq, Prod.mk.injEq] at H
      obtain ⟨rfl, rfl, rfl, rfl, rfl⟩ := H
      go_enter Tryz.func13, Tryz.ntmps13
      go_wp2_with (first | ((with_reducible refine gate_dst (N := 3) rfl ?_); refine box_event ?hg (N := 3) ?hd (cs := #[.int .i64 a0_0, .int .i64 a0_1, .int .i64 a0_2, .slice A0_3 l0_3.length c0_3]) (t := 24) ?hr ?_; (case hd => rfl); (case hg => rfl); (case hr => first | (go_simp; done) | (go_simp; rfl)); intro gb115 hg w9 hbox hb; have n0_ := Aside0.mk (below_step (by repeat (first | (with_reducible first | exact HB.out | apply below_alloc | apply pw_below_drewN | apply below_drew1) | exact HB.out)) hb); have n1_ := Aside0.mk (hbox); have n2_ := Aside0.mk ((by rw [hg]; exact (below_size (by repeat (first | (with_reducible first | exact HB.out | apply below_alloc | apply pw_below_drewN | apply below_drew1) | exact HB.out))) : w.heap.size ≤ gb115)); have n3_ := Aside0.mk ((by rw [hg]; exact (below_size (by repeat (first | (with_reducible first | exact HB.out | apply below_alloc | apply pw_below_drewN | apply below_drew1) | exact HB.out))) : w.heap.size ≤ gb115)); clear HB; have HB := n0_; have BK115 := n1_; have GW115 := n2_; have GE115 := n3_; clear n0_ n1_ n2_ n3_; clear hb hbox hg) | ((with_reducible refine gate_dst (N := 6) rfl ?_); refine box_event ?hg (N := 6) ?hd (cs := #[.int .i64 0, .int .i64 0, .int .i64 0, .slice none 0 0]) (t := 24) ?hr ?_; (case hd => rfl); (case hg => rfl); (case hr => first | (go_simp; done) | (go_simp; rfl)); intro gb116 hg w10 hbox hb; have n0_ := Aside0.mk (blk_below (g := gb115) (o := .cells #[.int .i64 a0_0, .int .i64 a0_1, .int .i64 a0_2, .slice A0_3 l0_3.length c0_3] 24 (0, 0)) (by (with_reducible repeat (first | refine blk_drewN ?_ _ | refine blk_drew ?_ | refine blk_alloc ?_ _)); exact BK115.out) hb); have n1_ := Aside0.mk (below_step (by repeat (first | (with_reducible first | exact HB.out | apply below_alloc | apply pw_below_drewN | apply below_drew1 | refine below_set ?_ GE115.out) | exact HB.out)) hb); have n2_ := Aside0.mk (hbox); have n3_ := Aside0.mk ((by rw [hg]; exact (below_size (by repeat (first | (with_reducible first | exact HB.out | apply below_alloc | apply pw_below_drewN | apply below_drew1 | refine below_set ?_ GE115.out) | exact HB.out))) : w.heap.size ≤ gb116)); have n4_ := Aside0.mk ((by rw [hg]; exact (below_size (by repeat (first | (with_reducible first | exact HB.out | apply below_alloc | apply pw_below_drewN | apply below_drew1 | refine below_set ?_ GE115.out) | exact HB.out))) : w.heap.size ≤ gb116)); have n5_ := Aside0.mk ((by rw [hg]; exact Nat.ne_of_lt (blk_lt (g := gb115) (o := .cells #[.int .i64 a0_0, .int .i64 a0_1, .int .i64 a0_2, .slice A0_3 l0_3.length c0_3] 24 (0, 0)) (by (with_reducible repeat (first | refine blk_drewN ?_ _ | refine blk_drew ?_ | refine blk_alloc ?_ _)); exact BK115.out)) : gb115 ≠ gb116)); have n6_ := Aside0.mk ((by rw [hg]; exact Nat.ne_of_gt (blk_lt (g := gb115) (o := .cells #[.int .i64 a0_0, .int .i64 a0_1, .int .i64 a0_2, .slice A0_3 l0_3.length c0_3] 24 (0, 0)) (by (with_reducible repeat (first | refine blk_drewN ?_ _ | refine blk_drew ?_ | refine blk_alloc ?_ _)); exact BK115.out)) : gb116 ≠ gb115)); clear BK115; clear HB; have BK115 := n0_; have HB := n1_; have BK116 := n2_; have GW116 := n3_; have GE116 := n4_; have NB115_116 := n5_; have NB116_115 := n6_; clear n0_ n1_ n2_ n3_ n4_ n5_ n6_; clear hb hbox hg; have hnb11 := NB115_116.out; have hnc11 := NB116_115.out; have hcz12_0 : w10.cell? ⟨gb115, 0, none⟩ = some (.int .i64 a0_0) := (blk_cell BK115.out 0).trans rfl; have hcz12_1 : w10.cell? ⟨gb115, 1, none⟩ = some (.int .i64 a0_1) := (blk_cell BK115.out 1).trans rfl; have hcz12_2 : w10.cell? ⟨gb115, 2, none⟩ = some (.int .i64 a0_2) := (blk_cell BK115.out 2).trans rfl; have hcz12_3 : w10.cell? ⟨gb115, 3, none⟩ = some (.slice A0_3 l0_3.length c0_3) := (blk_cell BK115.out 3).trans rfl; have hfz12_0 := blk_frozen BK115.out 0; have hfz12_1 := blk_frozen BK115.out 1; have hfz12_2 := blk_frozen BK115.out 2; have hfz12_3 := blk_frozen BK115.out 3) | ((with_reducible refine gate_callee (f := 47) rfl ?_); refine goesL_ (some 10) rfl rfl Tryz.func47 (by kernel_rfl) rfl #[.agg #[.int .i64 a0_0, .int .i64 a0_1, .int .i64 a0_2, .slice A0_3 l0_3.length c0_3]] rfl (by (try simp only [List.map_toArray, List.map_cons, List.map_nil]); first | done | rfl | (simp only [List.length_drop, List.length_take]; rfl)) ?_; (with_reducible refine (picture_Check.calls a0_0 a0_1 a0_2 _ _ l0_3 t117 _ ?side1 ?side2 A4.out).mono ?_); (case side1 => repeat (first | exact (Kd.C_below HR0_3.out HB.out) | (with_reducible refine Kd.C_alloc ?_ _) | (with_reducible refine Kd.C_drewN ?_ _) | (with_reducible refine Kd.C_drew ?_))); (case side2 => exact HC0_3.out); rintro e w13 ⟨rfl, hb⟩; refine ⟨_, rfl, ?_⟩; have n0_ := Aside0.mk (blk_below (g := gb115) (o := .cells #[.int .i64 a0_0, .int .i64 a0_1, .int .i64 a0_2, .slice A0_3 l0_3.length c0_3] 24 (0, 0)) (by (with_reducible repeat (first | refine blk_drewN ?_ _ | refine blk_drew ?_ | refine blk_alloc ?_ _)); exact BK115.out) hb); have n1_ := Aside0.mk (blk_below (g := gb116) (o := .cells #[.int .i64 0, .int .i64 0, .int .i64 0, .slice none 0 0] 24 (0, 0)) (by (with_reducible repeat (first | refine blk_drewN ?_ _ | refine blk_drew ?_ | refine blk_alloc ?_ _)); exact BK116.out) hb); have n2_ := Aside0.mk (below_step (by repeat (first | (with_reducible first | exact HB.out | apply below_alloc | apply pw_below_drewN | apply below_drew1 | refine below_set ?_ GE115.out | refine below_set ?_ GE116.out) | exact HB.out)) hb); clear BK115; clear BK116; clear HB; have BK115 := n0_; have BK116 := n1_; have HB := n2_; clear n0_ n1_ n2_; (try clear hb); (try clear hb2); (try clear hk); (try clear hi)) | ((with_reducible refine gate_callee (f := 48) rfl ?_); refine goesL_ (some 16) rfl rfl Tryz.func48 (by kernel_rfl) rfl #[.int .i64 a1, .int .i64 0, .int .i64 3] rfl (by (try simp only [List.map_toArray, List.map_cons, List.map_nil]); first | done | rfl | (simp only [List.length_drop, List.length_take]; rfl)) ?_; (with_reducible refine (item_within.calls a1 0 3 true _ A6.out).mono ?_); rintro e w' ⟨rfl, ⟨nd, rfl⟩⟩; refine ⟨_, rfl, ?_⟩; (try (rw [drewN_self w13]; generalize hq_ : World.drewN w13 _ = w13; have n0_ : Aside0 (w13.heap[gb115]? = some (.cells #[.int .i64 a0_0, .int .i64 a0_1, .int .i64 a0_2, .slice A0_3 l0_3.length c0_3] 24 (0, 0))) := ⟨by rw [← hq_]; exact (by (with_reducible repeat (first | refine blk_drewN ?_ _ | refine blk_drew ?_ | refine blk_alloc ?_ _)); exact BK115.out)⟩; have n1_ : Aside0 (w13.heap[gb116]? = some (.cells #[.int .i64 0, .int .i64 0, .int .i64 0, .slice none 0 0] 24 (0, 0))) := ⟨by rw [← hq_]; exact (by (with_reducible repeat (first | refine blk_drewN ?_ _ | refine blk_drew ?_ | refine blk_alloc ?_ _)); exact BK116.out)⟩; have n2_ : Aside0 (Below w.heap.size w w13) := ⟨by rw [← hq_]; exact (by repeat (first | (with_reducible first | exact HB.out | apply below_alloc | apply pw_below_drewN | apply below_drew1 | refine below_set ?_ GE115.out | refine below_set ?_ GE116.out) | exact HB.out))⟩; clear BK115 BK116 HB hq_; have BK115 := n0_; have BK116 := n1_; have HB := n2_; clear n0_ n1_ n2_)); have hcz14_0 : w13.cell? ⟨gb115, 0, none⟩ = some (.int .i64 a0_0) := (blk_cell BK115.out 0).trans rfl; have hcz14_1 : w13.cell? ⟨gb115, 1, none⟩ = some (.int .i64 a0_1) := (blk_cell BK115.out 1).trans rfl; have hcz14_2 : w13.cell? ⟨gb115, 2, none⟩ = some (.int .i64 a0_2) := (blk_cell BK115.out 2).trans rfl; have hcz14_3 : w13.cell? ⟨gb115, 3, none⟩ = some (.slice A0_3 l0_3.length c0_3) := (blk_cell BK115.out 3).trans rfl; have hfz14_0 := blk_frozen BK115.out 0; have hfz14_1 := blk_frozen BK115.out 1; have hfz14_2 := blk_frozen BK115.out 2; have hfz14_3 := blk_frozen BK115.out 3) | ((with_reducible refine gate_callee (f := 49) rfl ?_); refine goesL_ (some 22) rfl rfl Tryz.func49 (by kernel_rfl) rfl #[.agg #[.int .i64 a0_0, .int .i64 a0_1, .int .i64 a0_2, .slice A0_3 l0_3.length c0_3], .int .i64 a1, .bool a2] rfl (by (try simp only [List.map_toArray, List.map_cons, List.map_nil]); first | done | rfl | (simp only [List.length_drop, List.length_take]; rfl)) ?_; (with_reducible refine (item_turned.calls a0_0 a0_1 a0_2 _ _ l0_3 a1 a2 t119 t120 t121 t122 _ ?side1 ?side2 A8.out).mono ?_); (case side1 => repeat (first | exact (Kd.C_below HR0_3.out HB.out) | (with_reducible refine Kd.C_alloc ?_ _) | (with_reducible refine Kd.C_drewN ?_ _) | (with_reducible refine Kd.C_drew ?_))); (case side2 => exact HC0_3.out); rintro e w15 ⟨v123, rfl, ho0, hb⟩; refine ⟨_, rfl, ?_⟩; have n0_ := Aside0.mk (Kd.S_lower ho0 (below_size (by repeat (first | (with_reducible first | exact HB.out | apply below_alloc | apply pw_below_drewN | apply below_drew1 | refine below_set ?_ GE115.out | refine below_set ?_ GE116.out) | exact HB.out)))); have n1_ := Aside0.mk (blk_below (g := gb115) (o := .cells #[.int .i64 a0_0, .int .i64 a0_1, .int .i64 a0_2, .slice A0_3 l0_3.length c0_3] 24 (0, 0)) (by (with_reducible repeat (first | refine blk_drewN ?_ _ | refine blk_drew ?_ | refine blk_alloc ?_ _)); exact BK115.out) hb); have n2_ := Aside0.mk (blk_below (g := gb116) (o := .cells #[.int .i64 0, .int .i64 0, .int .i64 0, .slice none 0 0] 24 (0, 0)) (by (with_reducible repeat (first | refine blk_drewN ?_ _ | refine blk_drew ?_ | refine blk_alloc ?_ _)); exact BK116.out) hb); have n3_ := Aside0.mk (below_step (by repeat (first | (with_reducible first | exact HB.out | apply below_alloc | apply pw_below_drewN | apply below_drew1 | refine below_set ?_ GE115.out | refine below_set ?_ GE116.out) | exact HB.out)) hb); clear BK115; clear BK116; clear HB; have HO124 := n0_; have BK115 := n1_; have BK116 := n2_; have HB := n3_; clear n0_ n1_ n2_ n3_; (try clear hb); (try clear hb2); (try clear hk); (try clear hi); (try clear ho0); have hcz16_0 : w15.cell? ⟨gb116, 0, none⟩ = some (.int .i64 0) := (blk_cell BK116.out 0).trans rfl; have hcz16_1 : w15.cell? ⟨gb116, 1, none⟩ = some (.int .i64 0) := (blk_cell BK116.out 1).trans rfl; have hcz16_2 : w15.cell? ⟨gb116, 2, none⟩ = some (.int .i64 0) := (blk_cell BK116.out 2).trans rfl; have hcz16_3 : w15.cell? ⟨gb116, 3, none⟩ = some (.slice none 0 0) := (blk_cell BK116.out 3).trans rfl; have hfz16_0 := blk_frozen BK116.out 0; have hfz16_1 := blk_frozen BK116.out 1; have hfz16_2 := blk_frozen BK116.out 2; have hfz16_3 := blk_frozen BK116.out 3; obtain ⟨Ao17, co17, eo17⟩ := Kd.S_slice HO124.out; subst eo17))
      refine bodyPost_ret (results_ct rfl _ _ gb116 24 #[.int .i64 t119, .int .i64 t120, .int .i64 t121, .slice Ao17 t122.length co17] (0, 0) _ rfl (by (with_reducible repeat (first | refine blk_drewN ?_ _ | refine blk_drew ?_ | refine blk_alloc ?_ _)); refine blk_put (cs := #[.int .i64 t119, .int .i64 t120, .int .i64 t121, .slice none 0 0]) ?_ 3 _ rfl; (with_reducible repeat (first | refine blk_drewN ?_ _ | refine blk_drew ?_ | refine blk_alloc ?_ _)); refine blk_put (cs := #[.int .i64 t119, .int .i64 t120, .int .i64 0, .slice none 0 0]) ?_ 2 _ rfl; (with_reducible repeat (first | refine blk_drewN ?_ _ | refine blk_drew ?_ | refine blk_alloc ?_ _)); refine blk_put (cs := #[.int .i64 t119, .int .i64 0, .int .i64 0, .slice none 0 0]) ?_ 1 _ rfl; (with_reducible repeat (first | refine blk_drewN ?_ _ | refine blk_drew ?_ | refine blk_alloc ?_ _)); refine blk_put (cs := #[.int .i64 0, .int .i64 0, .int .i64 0, .slice none 0 0]) ?_ 0 _ rfl; (with_reducible repeat (first | refine blk_drewN ?_ _ | refine blk_drew ?_ | refine blk_alloc ?_ _)); exact BK116.out) Tryz.underlying24 rfl (by kernel_rfl)) rfl ?_
      exact ⟨_, by first | rfl | (simp [errW_none, errW_some] <;> rfl) | (simp [*, errW_none, errW_some] <;> rfl), by (with_reducible repeat (first | apply Kd.S_alloc | apply Kd.S_drewN | apply Kd.S_drew)); exact Kd.S_mono (Kd.S_far (p := ⟨gb116, 3, none⟩) (Kd.S_far (p := ⟨gb116, 2, none⟩) (Kd.S_far (p := ⟨gb116, 1, none⟩) (Kd.S_far (p := ⟨gb116, 0, none⟩) (Kd.S_types HO124.out BK116.out (by decide)) (fun _ hk => hk.2) (.int .i64 t119)) (fun _ hk => hk.2) (.int .i64 t120)) (fun _ hk => hk.2) (.int .i64 t121)) (fun _ hk => hk.2) (.slice Ao17 t122.length co17)) (fun _ hk => trivial), by repeat (first | (with_reducible first | exact HB.out | apply below_alloc | apply pw_below_drewN | apply below_drew1 | refine below_set ?_ GE115.out | refine below_set ?_ GE116.out) | exact HB.out)⟩
    · replace c7 := Bool.eq_false_iff.mpr c7
      subst c7
      have H1 : (some (0, 0, 0, ([] : List (List Int)), 1)) = some (r1, r2, r3, r4, r5) := by rw [if_neg (show ¬ (false = true) by decide)] at H; exact H
      clear H
      have H := H1
      clear H1
      simp only [Option.some.injEq, Prod.mk.injEq] at H
      obtain ⟨rfl, rfl, rfl, rfl, rfl⟩ := H
      go_enter Tryz.func13, Tryz.ntmps13
      go_wp2_with (first | ((with_reducible refine gate_dst (N := 3) rfl ?_); refine box_event ?hg (N := 3) ?hd (cs := #[.int .i64 a0_0, .int .i64 a0_1, .int .i64 a0_2, .slice A0_3 l0_3.length c0_3]) (t := 24) ?hr ?_; (case hd => rfl); (case hg => rfl); (case hr => first | (go_simp; done) | (go_simp; rfl)); intro gb115 hg w18 hbox hb; have n0_ := Aside0.mk (below_step (by repeat (first | (with_reducible first | exact HB.out | apply below_alloc | apply pw_below_drewN | apply below_drew1) | exact HB.out)) hb); have n1_ := Aside0.mk (hbox); have n2_ := Aside0.mk ((by rw [hg]; exact (below_size (by repeat (first | (with_reducible first | exact HB.out | apply below_alloc | apply pw_below_drewN | apply below_drew1) | exact HB.out))) : w.heap.size ≤ gb115)); have n3_ := Aside0.mk ((by rw [hg]; exact (below_size (by repeat (first | (with_reducible first | exact HB.out | apply below_alloc | apply pw_below_drewN | apply below_drew1) | exact HB.out))) : w.heap.size ≤ gb115)); clear HB; have HB := n0_; have BK115 := n1_; have GW115 := n2_; have GE115 := n3_; clear n0_ n1_ n2_ n3_; clear hb hbox hg) | ((with_reducible refine gate_dst (N := 6) rfl ?_); refine box_event ?hg (N := 6) ?hd (cs := #[.int .i64 0, .int .i64 0, .int .i64 0, .slice none 0 0]) (t := 24) ?hr ?_; (case hd => rfl); (case hg => rfl); (case hr => first | (go_simp; done) | (go_simp; rfl)); intro gb116 hg w19 hbox hb; have n0_ := Aside0.mk (blk_below (g := gb115) (o := .cells #[.int .i64 a0_0, .int .i64 a0_1, .int .i64 a0_2, .slice A0_3 l0_3.length c0_3] 24 (0, 0)) (by (with_reducible repeat (first | refine blk_drewN ?_ _ | refine blk_drew ?_ | refine blk_alloc ?_ _)); exact BK115.out) hb); have n1_ := Aside0.mk (below_step (by repeat (first | (with_reducible first | exact HB.out | apply below_alloc | apply pw_below_drewN | apply below_drew1 | refine below_set ?_ GE115.out) | exact HB.out)) hb); have n2_ := Aside0.mk (hbox); have n3_ := Aside0.mk ((by rw [hg]; exact (below_size (by repeat (first | (with_reducible first | exact HB.out | apply below_alloc | apply pw_below_drewN | apply below_drew1 | refine below_set ?_ GE115.out) | exact HB.out))) : w.heap.size ≤ gb116)); have n4_ := Aside0.mk ((by rw [hg]; exact (below_size (by repeat (first | (with_reducible first | exact HB.out | apply below_alloc | apply pw_below_drewN | apply below_drew1 | refine below_set ?_ GE115.out) | exact HB.out))) : w.heap.size ≤ gb116)); have n5_ := Aside0.mk ((by rw [hg]; exact Nat.ne_of_lt (blk_lt (g := gb115) (o := .cells #[.int .i64 a0_0, .int .i64 a0_1, .int .i64 a0_2, .slice A0_3 l0_3.length c0_3] 24 (0, 0)) (by (with_reducible repeat (first | refine blk_drewN ?_ _ | refine blk_drew ?_ | refine blk_alloc ?_ _)); exact BK115.out)) : gb115 ≠ gb116)); have n6_ := Aside0.mk ((by rw [hg]; exact Nat.ne_of_gt (blk_lt (g := gb115) (o := .cells #[.int .i64 a0_0, .int .i64 a0_1, .int .i64 a0_2, .slice A0_3 l0_3.length c0_3] 24 (0, 0)) (by (with_reducible repeat (first | refine blk_drewN ?_ _ | refine blk_drew ?_ | refine blk_alloc ?_ _)); exact BK115.out)) : gb116 ≠ gb115)); clear BK115; clear HB; have BK115 := n0_; have HB := n1_; have BK116 := n2_; have GW116 := n3_; have GE116 := n4_; have NB115_116 := n5_; have NB116_115 := n6_; clear n0_ n1_ n2_ n3_ n4_ n5_ n6_; clear hb hbox hg; have hnb20 := NB115_116.out; have hnc20 := NB116_115.out; have hcz21_0 : w19.cell? ⟨gb115, 0, none⟩ = some (.int .i64 a0_0) := (blk_cell BK115.out 0).trans rfl; have hcz21_1 : w19.cell? ⟨gb115, 1, none⟩ = some (.int .i64 a0_1) := (blk_cell BK115.out 1).trans rfl; have hcz21_2 : w19.cell? ⟨gb115, 2, none⟩ = some (.int .i64 a0_2) := (blk_cell BK115.out 2).trans rfl; have hcz21_3 : w19.cell? ⟨gb115, 3, none⟩ = some (.slice A0_3 l0_3.length c0_3) := (blk_cell BK115.out 3).trans rfl; have hfz21_0 := blk_frozen BK115.out 0; have hfz21_1 := blk_frozen BK115.out 1; have hfz21_2 := blk_frozen BK115.out 2; have hfz21_3 := blk_frozen BK115.out 3) | ((with_reducible refine gate_callee (f := 47) rfl ?_); refine goesL_ (some 10) rfl rfl Tryz.func47 (by kernel_rfl) rfl #[.agg #[.int .i64 a0_0, .int .i64 a0_1, .int .i64 a0_2, .slice A0_3 l0_3.length c0_3]] rfl (by (try simp only [List.map_toArray, List.map_cons, List.map_nil]); first | done | rfl | (simp only [List.length_drop, List.length_take]; rfl)) ?_; (with_reducible refine (picture_Check.calls a0_0 a0_1 a0_2 _ _ l0_3 t117 _ ?side1 ?side2 A4.out).mono ?_); (case side1 => repeat (first | exact (Kd.C_below HR0_3.out HB.out) | (with_reducible refine Kd.C_alloc ?_ _) | (with_reducible refine Kd.C_drewN ?_ _) | (with_reducible refine Kd.C_drew ?_))); (case side2 => exact HC0_3.out); rintro e w22 ⟨rfl, hb⟩; refine ⟨_, rfl, ?_⟩; have n0_ := Aside0.mk (blk_below (g := gb115) (o := .cells #[.int .i64 a0_0, .int .i64 a0_1, .int .i64 a0_2, .slice A0_3 l0_3.length c0_3] 24 (0, 0)) (by (with_reducible repeat (first | refine blk_drewN ?_ _ | refine blk_drew ?_ | refine blk_alloc ?_ _)); exact BK115.out) hb); have n1_ := Aside0.mk (blk_below (g := gb116) (o := .cells #[.int .i64 0, .int .i64 0, .int .i64 0, .slice none 0 0] 24 (0, 0)) (by (with_reducible repeat (first | refine blk_drewN ?_ _ | refine blk_drew ?_ | refine blk_alloc ?_ _)); exact BK116.out) hb); have n2_ := Aside0.mk (below_step (by repeat (first | (with_reducible first | exact HB.out | apply below_alloc | apply pw_below_drewN | apply below_drew1 | refine below_set ?_ GE115.out | refine below_set ?_ GE116.out) | exact HB.out)) hb); clear BK115; clear BK116; clear HB; have BK115 := n0_; have BK116 := n1_; have HB := n2_; clear n0_ n1_ n2_; (try clear hb); (try clear hb2); (try clear hk); (try clear hi)) | ((with_reducible refine gate_callee (f := 48) rfl ?_); refine goesL_ (some 16) rfl rfl Tryz.func48 (by kernel_rfl) rfl #[.int .i64 a1, .int .i64 0, .int .i64 3] rfl (by (try simp only [List.map_toArray, List.map_cons, List.map_nil]); first | done | rfl | (simp only [List.length_drop, List.length_take]; rfl)) ?_; (with_reducible refine (item_within.calls a1 0 3 false _ A6.out).mono ?_); rintro e w' ⟨rfl, ⟨nd, rfl⟩⟩; refine ⟨_, rfl, ?_⟩; (try (rw [drewN_self w22]; generalize hq_ : World.drewN w22 _ = w22; have n0_ : Aside0 (w22.heap[gb115]? = some (.cells #[.int .i64 a0_0, .int .i64 a0_1, .int .i64 a0_2, .slice A0_3 l0_3.length c0_3] 24 (0, 0))) := ⟨by rw [← hq_]; exact (by (with_reducible repeat (first | refine blk_drewN ?_ _ | refine blk_drew ?_ | refine blk_alloc ?_ _)); exact BK115.out)⟩; have n1_ : Aside0 (w22.heap[gb116]? = some (.cells #[.int .i64 0, .int .i64 0, .int .i64 0, .slice none 0 0] 24 (0, 0))) := ⟨by rw [← hq_]; exact (by (with_reducible repeat (first | refine blk_drewN ?_ _ | refine blk_drew ?_ | refine blk_alloc ?_ _)); exact BK116.out)⟩; have n2_ : Aside0 (Below w.heap.size w w22) := ⟨by rw [← hq_]; exact (by repeat (first | (with_reducible first | exact HB.out | apply below_alloc | apply pw_below_drewN | apply below_drew1 | refine below_set ?_ GE115.out | refine below_set ?_ GE116.out) | exact HB.out))⟩; clear BK115 BK116 HB hq_; have BK115 := n0_; have BK116 := n1_; have HB := n2_; clear n0_ n1_ n2_)); have hcz23_0 : w22.cell? ⟨gb116, 0, none⟩ = some (.int .i64 0) := (blk_cell BK116.out 0).trans rfl; have hcz23_1 : w22.cell? ⟨gb116, 1, none⟩ = some (.int .i64 0) := (blk_cell BK116.out 1).trans rfl; have hcz23_2 : w22.cell? ⟨gb116, 2, none⟩ = some (.int .i64 0) := (blk_cell BK116.out 2).trans rfl; have hcz23_3 : w22.cell? ⟨gb116, 3, none⟩ = some (.slice none 0 0) := (blk_cell BK116.out 3).trans rfl; have hfz23_0 := blk_frozen BK116.out 0; have hfz23_1 := blk_frozen BK116.out 1; have hfz23_2 := blk_frozen BK116.out 2; have hfz23_3 := blk_frozen BK116.out 3))
      refine bodyPost_ret (results_ct rfl _ _ gb116 24 #[.int .i64 0, .int .i64 0, .int .i64 0, .slice none 0 0] (0, 0) _ rfl (by (with_reducible repeat (first | refine blk_drewN ?_ _ | refine blk_drew ?_ | refine blk_alloc ?_ _)); refine blk_put (cs := #[.int .i64 0, .int .i64 0, .int .i64 0, .slice none 0 0]) ?_ 3 _ rfl; (with_reducible repeat (first | refine blk_drewN ?_ _ | refine blk_drew ?_ | refine blk_alloc ?_ _)); refine blk_put (cs := #[.int .i64 0, .int .i64 0, .int .i64 0, .slice none 0 0]) ?_ 2 _ rfl; (with_reducible repeat (first | refine blk_drewN ?_ _ | refine blk_drew ?_ | refine blk_alloc ?_ _)); refine blk_put (cs := #[.int .i64 0, .int .i64 0, .int .i64 0, .slice none 0 0]) ?_ 1 _ rfl; (with_reducible repeat (first | refine blk_drewN ?_ _ | refine blk_drew ?_ | refine blk_alloc ?_ _)); refine blk_put (cs := #[.int .i64 0, .int .i64 0, .int .i64 0, .slice none 0 0]) ?_ 0 _ rfl; (with_reducible repeat (first | refine blk_drewN ?_ _ | refine blk_drew ?_ | refine blk_alloc ?_ _)); exact BK116.out) Tryz.underlying24 rfl (by kernel_rfl)) rfl ?_
      exact ⟨_, by first | rfl | (simp [errW_none, errW_some] <;> rfl) | (simp [*, errW_none, errW_some] <;> rfl), by first | exact Kd.S_nil _ _ _ _ _ | exact Kd.N_nil _ _ _ _ _ | exact Kd.V_nil _ _ _ _ _ | exact Kd.Q_nil _ _ _ _ _ | exact Kd.R_nil _ _ _ _ _, by repeat (first | (with_reducible first | exact HB.out | apply below_alloc | apply pw_below_drewN | apply below_drew1 | refine below_set ?_ GE115.out | refine below_set ?_ GE116.out) | exact HB.out)⟩
  · rw [if_neg c5] at H
    have c5b0 : (t117 == 0) = false := beq_eq_false_iff_ne.mpr c5
    have c5b1 : (t117 != 0) = true := bne_iff_ne.mpr c5
    simp only [Option.some.injEq, Prod.mk.injEq] at H
    obtain ⟨rfl, rfl, rfl, rfl, rfl⟩ := H
    go_enter Tryz.func13, Tryz.ntmps13
    go_wp2_with (first | ((with_reducible refine gate_dst (N := 3) rfl ?_); refine box_event ?hg (N := 3) ?hd (cs := #[.int .i64 a0_0, .int .i64 a0_1, .int .i64 a0_2, .slice A0_3 l0_3.length c0_3]) (t := 24) ?hr ?_; (case hd => rfl); (case hg => rfl); (case hr => first | (go_simp; done) | (go_simp; rfl)); intro gb115 hg w24 hbox hb; have n0_ := Aside0.mk (below_step (by repeat (first | (with_reducible first | exact HB.out | apply below_alloc | apply pw_below_drewN | apply below_drew1) | exact HB.out)) hb); have n1_ := Aside0.mk (hbox); have n2_ := Aside0.mk ((by rw [hg]; exact (below_size (by repeat (first | (with_reducible first | exact HB.out | apply below_alloc | apply pw_below_drewN | apply below_drew1) | exact HB.out))) : w.heap.size ≤ gb115)); have n3_ := Aside0.mk ((by rw [hg]; exact (below_size (by repeat (first | (with_reducible first | exact HB.out | apply below_alloc | apply pw_below_drewN | apply below_drew1) | exact HB.out))) : w.heap.size ≤ gb115)); clear HB; have HB := n0_; have BK115 := n1_; have GW115 := n2_; have GE115 := n3_; clear n0_ n1_ n2_ n3_; clear hb hbox hg) | ((with_reducible refine gate_dst (N := 6) rfl ?_); refine box_event ?hg (N := 6) ?hd (cs := #[.int .i64 0, .int .i64 0, .int .i64 0, .slice none 0 0]) (t := 24) ?hr ?_; (case hd => rfl); (case hg => rfl); (case hr => first | (go_simp; done) | (go_simp; rfl)); intro gb116 hg w25 hbox hb; have n0_ := Aside0.mk (blk_below (g := gb115) (o := .cells #[.int .i64 a0_0, .int .i64 a0_1, .int .i64 a0_2, .slice A0_3 l0_3.length c0_3] 24 (0, 0)) (by (with_reducible repeat (first | refine blk_drewN ?_ _ | refine blk_drew ?_ | refine blk_alloc ?_ _)); exact BK115.out) hb); have n1_ := Aside0.mk (below_step (by repeat (first | (with_reducible first | exact HB.out | apply below_alloc | apply pw_below_drewN | apply below_drew1 | refine below_set ?_ GE115.out) | exact HB.out)) hb); have n2_ := Aside0.mk (hbox); have n3_ := Aside0.mk ((by rw [hg]; exact (below_size (by repeat (first | (with_reducible first | exact HB.out | apply below_alloc | apply pw_below_drewN | apply below_drew1 | refine below_set ?_ GE115.out) | exact HB.out))) : w.heap.size ≤ gb116)); have n4_ := Aside0.mk ((by rw [hg]; exact (below_size (by repeat (first | (with_reducible first | exact HB.out | apply below_alloc | apply pw_below_drewN | apply below_drew1 | refine below_set ?_ GE115.out) | exact HB.out))) : w.heap.size ≤ gb116)); have n5_ := Aside0.mk ((by rw [hg]; exact Nat.ne_of_lt (blk_lt (g := gb115) (o := .cells #[.int .i64 a0_0, .int .i64 a0_1, .int .i64 a0_2, .slice A0_3 l0_3.length c0_3] 24 (0, 0)) (by (with_reducible repeat (first | refine blk_drewN ?_ _ | refine blk_drew ?_ | refine blk_alloc ?_ _)); exact BK115.out)) : gb115 ≠ gb116)); have n6_ := Aside0.mk ((by rw [hg]; exact Nat.ne_of_gt (blk_lt (g := gb115) (o := .cells #[.int .i64 a0_0, .int .i64 a0_1, .int .i64 a0_2, .slice A0_3 l0_3.length c0_3] 24 (0, 0)) (by (with_reducible repeat (first | refine blk_drewN ?_ _ | refine blk_drew ?_ | refine blk_alloc ?_ _)); exact BK115.out)) : gb116 ≠ gb115)); clear BK115; clear HB; have BK115 := n0_; have HB := n1_; have BK116 := n2_; have GW116 := n3_; have GE116 := n4_; have NB115_116 := n5_; have NB116_115 := n6_; clear n0_ n1_ n2_ n3_ n4_ n5_ n6_; clear hb hbox hg; have hnb26 := NB115_116.out; have hnc26 := NB116_115.out; have hcz27_0 : w25.cell? ⟨gb115, 0, none⟩ = some (.int .i64 a0_0) := (blk_cell BK115.out 0).trans rfl; have hcz27_1 : w25.cell? ⟨gb115, 1, none⟩ = some (.int .i64 a0_1) := (blk_cell BK115.out 1).trans rfl; have hcz27_2 : w25.cell? ⟨gb115, 2, none⟩ = some (.int .i64 a0_2) := (blk_cell BK115.out 2).trans rfl; have hcz27_3 : w25.cell? ⟨gb115, 3, none⟩ = some (.slice A0_3 l0_3.length c0_3) := (blk_cell BK115.out 3).trans rfl; have hfz27_0 := blk_frozen BK115.out 0; have hfz27_1 := blk_frozen BK115.out 1; have hfz27_2 := blk_frozen BK115.out 2; have hfz27_3 := blk_frozen BK115.out 3) | ((with_reducible refine gate_callee (f := 47) rfl ?_); refine goesL_ (some 10) rfl rfl Tryz.func47 (by kernel_rfl) rfl #[.agg #[.int .i64 a0_0, .int .i64 a0_1, .int .i64 a0_2, .slice A0_3 l0_3.length c0_3]] rfl (by (try simp only [List.map_toArray, List.map_cons, List.map_nil]); first | done | rfl | (simp only [List.length_drop, List.length_take]; rfl)) ?_; (with_reducible refine (picture_Check.calls a0_0 a0_1 a0_2 _ _ l0_3 t117 _ ?side1 ?side2 A4.out).mono ?_); (case side1 => repeat (first | exact (Kd.C_below HR0_3.out HB.out) | (with_reducible refine Kd.C_alloc ?_ _) | (with_reducible refine Kd.C_drewN ?_ _) | (with_reducible refine Kd.C_drew ?_))); (case side2 => exact HC0_3.out); rintro e w28 ⟨rfl, hb⟩; refine ⟨_, rfl, ?_⟩; have n0_ := Aside0.mk (blk_below (g := gb115) (o := .cells #[.int .i64 a0_0, .int .i64 a0_1, .int .i64 a0_2, .slice A0_3 l0_3.length c0_3] 24 (0, 0)) (by (with_reducible repeat (first | refine blk_drewN ?_ _ | refine blk_drew ?_ | refine blk_alloc ?_ _)); exact BK115.out) hb); have n1_ := Aside0.mk (blk_below (g := gb116) (o := .cells #[.int .i64 0, .int .i64 0, .int .i64 0, .slice none 0 0] 24 (0, 0)) (by (with_reducible repeat (first | refine blk_drewN ?_ _ | refine blk_drew ?_ | refine blk_alloc ?_ _)); exact BK116.out) hb); have n2_ := Aside0.mk (below_step (by repeat (first | (with_reducible first | exact HB.out | apply below_alloc | apply pw_below_drewN | apply below_drew1 | refine below_set ?_ GE115.out | refine below_set ?_ GE116.out) | exact HB.out)) hb); clear BK115; clear BK116; clear HB; have BK115 := n0_; have BK116 := n1_; have HB := n2_; clear n0_ n1_ n2_; (try clear hb); (try clear hb2); (try clear hk); (try clear hi); have hcz29_0 : w28.cell? ⟨gb116, 0, none⟩ = some (.int .i64 0) := (blk_cell BK116.out 0).trans rfl; have hcz29_1 : w28.cell? ⟨gb116, 1, none⟩ = some (.int .i64 0) := (blk_cell BK116.out 1).trans rfl; have hcz29_2 : w28.cell? ⟨gb116, 2, none⟩ = some (.int .i64 0) := (blk_cell BK116.out 2).trans rfl; have hcz29_3 : w28.cell? ⟨gb116, 3, none⟩ = some (.slice none 0 0) := (blk_cell BK116.out 3).trans rfl; have hfz29_0 := blk_frozen BK116.out 0; have hfz29_1 := blk_frozen BK116.out 1; have hfz29_2 := blk_frozen BK116.out 2; have hfz29_3 := blk_frozen BK116.out 3))
    refine bodyPost_ret (results_ct rfl _ _ gb116 24 #[.int .i64 0, .int .i64 0, .int .i64 0, .slice none 0 0] (0, 0) _ rfl (by (with_reducible repeat (first | refine blk_drewN ?_ _ | refine blk_drew ?_ | refine blk_alloc ?_ _)); refine blk_put (cs := #[.int .i64 0, .int .i64 0, .int .i64 0, .slice none 0 0]) ?_ 3 _ rfl; (with_reducible repeat (first | refine blk_drewN ?_ _ | refine blk_drew ?_ | refine blk_alloc ?_ _)); refine blk_put (cs := #[.int .i64 0, .int .i64 0, .int .i64 0, .slice none 0 0]) ?_ 2 _ rfl; (with_reducible repeat (first | refine blk_drewN ?_ _ | refine blk_drew ?_ | refine blk_alloc ?_ _)); refine blk_put (cs := #[.int .i64 0, .int .i64 0, .int .i64 0, .slice none 0 0]) ?_ 1 _ rfl; (with_reducible repeat (first | refine blk_drewN ?_ _ | refine blk_drew ?_ | refine blk_alloc ?_ _)); refine blk_put (cs := #[.int .i64 0, .int .i64 0, .int .i64 0, .slice none 0 0]) ?_ 0 _ rfl; (with_reducible repeat (first | refine blk_drewN ?_ _ | refine blk_drew ?_ | refine blk_alloc ?_ _)); exact BK116.out) Tryz.underlying24 rfl (by kernel_rfl)) rfl ?_
    exact ⟨_, by first | rfl | (simp [errW_none, errW_some] <;> rfl) | (simp [*, errW_none, errW_some] <;> rfl), by first | exact Kd.S_nil _ _ _ _ _ | exact Kd.N_nil _ _ _ _ _ | exact Kd.V_nil _ _ _ _ _ | exact Kd.Q_nil _ _ _ _ _ | exact Kd.R_nil _ _ _ _ _, by repeat (first | (with_reducible first | exact HB.out | apply below_alloc | apply pw_below_drewN | apply below_drew1 | refine below_set ?_ GE115.out | refine below_set ?_ GE116.out) | exact HB.out)⟩
end Go.Proofs.YtphkionjjhhhlaaGreat.Q
end
section
namespace Go.Proofs.YtphkionjjhhhlaaGreat.Q
open Go.RowKit Go.Proofs.YtphkionjjhhhlaaGreatW.PrintWords Go.Proofs.YtphkionjjhhhlaaGreatW.PrintLast Go.Proofs.YtphkionjjhhhlaaGreatW.PrintMore
theorem eq_ints (l : List Int) (hl : l.length ≤ 10000000) : ∀ (n j : Nat), j + n = l.length → Ev fun k => dioramaref00_EqInts.l0 k l l j = some true := by
  intro n
  induction n with
  | zero =>
    intro j hj
    refine Ev.const (fun k => ?_)
    rw [dioramaref00_EqInts.l0, if_neg (by omega)]
  | succ n ih =>
    intro j hj
    refine Ev.step (fun k => ?_) (ih (j + 1) (by omega))
    rw [dioramaref00_EqInts.l0, if_pos (by omega), if_pos (by omega), if_pos (by omega), if_pos rfl, w64_succ j (by omega)]
end Go.Proofs.YtphkionjjhhhlaaGreat.Q
end
section
namespace Go.Proofs.YtphkionjjhhhlaaGreat.Q
open Go.RowKit Go.Proofs.YtphkionjjhhhlaaGreatW.PrintWords Go.Proofs.YtphkionjjhhhlaaGreatW.PrintLast Go.Proofs.YtphkionjjhhhlaaGreatW.PrintMore
def item_ready.f (l0 : List S68) (a1 : Int) : Option (Int × Int) := (item_Check.f l0).bind fun e => if e.1 = 0 then (if findI l0 a1 < 0 then some (0, 5) else some (findI l0 a1, 0)) else some (0, e.1)
set_option maxHeartbeats 16000000 in
set_option maxRecDepth 100000 in
theorem item_ready.calls (A0 : Option Addr) (c0 : Nat) (l0 : List S68) (a1 : Int) (r1 : Int) (r2 : Int) (w : World) (hr0 : Kd.C k68 w A0 l0.length l0) (hc0 : l0.length ≤ c0) (h : item_ready.f l0 a1 = some (r1, r2)) :
    Calls Tryz.prog 63 #[.slice A0 l0.length c0, .int .i64 a1] w fun e w' => e = .returned (.tuple #[.int .i64 r1, .int .i64 r2]) ∧ Below w.heap.size w w' := by
  obtain ⟨⟨e1, e2⟩, he, h⟩ := Option.bind_eq_some_iff.1 h
  have HR := Aside0.mk hr0
  have HC := Aside0.mk hc0
  have HE := Aside0.mk he
  clear hr0 hc0 he
  by_cases h0 : e1 = 0
  · rw [if_pos h0] at h
    subst h0
    by_cases hf : findI l0 a1 < 0
    · rw [if_pos hf] at h
      obtain ⟨rfl, rfl⟩ := Prod.mk.inj (Option.some.inj h)
      have df : decide (findI l0 a1 < 0) = true := decide_eq_true hf
      clear h hf
      go_enter Tryz.func63, Tryz.ntmps63
      go_wp2_with (first | (go_at_call 19; (with_reducible refine (item_Check.calls A0 c0 l0 0 e2 _ HR.out HC.out HE.out).mono ?_); rintro e w1 ⟨rfl, hb⟩; have HB := Aside0.mk hb; clear hb) | (go_at_call 55; (with_reducible refine (item_find.calls A0 c0 l0 a1 (findI l0 a1) _ (Kd.C_below HR.out HB.out) HC.out rfl).mono ?_); rintro e w2 ⟨rfl, hb⟩; have HB2 := Aside0.mk (pw_below_trans HB.out hb); clear hb))
      go_ret2
      exact ⟨rfl, HB2.out⟩
    · rw [if_neg hf] at h
      obtain ⟨rfl, rfl⟩ := Prod.mk.inj (Option.some.inj h)
      have df : decide (findI l0 a1 < 0) = false := decide_eq_false hf
      clear h hf
      go_enter Tryz.func63, Tryz.ntmps63
      go_wp2_with (first | (go_at_call 19; (with_reducible refine (item_Check.calls A0 c0 l0 0 e2 _ HR.out HC.out HE.out).mono ?_); rintro e w1 ⟨rfl, hb⟩; have HB := Aside0.mk hb; clear hb) | (go_at_call 55; (with_reducible refine (item_find.calls A0 c0 l0 a1 (findI l0 a1) _ (Kd.C_below HR.out HB.out) HC.out rfl).mono ?_); rintro e w2 ⟨rfl, hb⟩; have HB2 := Aside0.mk (pw_below_trans HB.out hb); clear hb))
      go_ret2
      exact ⟨rfl, HB2.out⟩
  · rw [if_neg h0] at h
    obtain ⟨rfl, rfl⟩ := Prod.mk.inj (Option.some.inj h)
    have d0 : decide (e1 = 0) = false := decide_eq_false h0
    have d1 : (e1 == 0) = false := by simpa using h0
    clear h h0
    go_enter Tryz.func63, Tryz.ntmps63
    go_wp2_with (first | (go_at_call 19; (with_reducible refine (item_Check.calls A0 c0 l0 e1 e2 _ HR.out HC.out HE.out).mono ?_); rintro e w1 ⟨rfl, hb⟩; have HB := Aside0.mk hb; clear hb))
    go_ret2
    exact ⟨rfl, HB.out⟩
end Go.Proofs.YtphkionjjhhhlaaGreat.Q
end
section
namespace Go.Proofs.YtphkionjjhhhlaaGreat.Q
open Go.RowKit Go.Proofs.YtphkionjjhhhlaaGreatW.PrintWords Go.Proofs.YtphkionjjhhhlaaGreatW.PrintLast Go.Proofs.YtphkionjjhhhlaaGreatW.PrintMore
def item_order.f (l0 : List S68) (a1 : Int) : Option (List Int) := walkO l0 (l0.length + 1) a1 []
set_option maxHeartbeats 16000000 in
set_option maxRecDepth 100000 in
theorem item_order.calls (A0 : Option Addr) (c0 : Nat) (l0 : List S68) (a1 : Int) (r : List Int) (w : World) (hr0 : Kd.C k68 w A0 l0.length l0) (hc0 : l0.length ≤ c0) (h : item_order.f l0 a1 = some r) :
    Calls Tryz.prog 64 #[.slice A0 l0.length c0, .int .i64 a1] w fun e w' => ∃ v0_ : Value, e = .returned (v0_) ∧ Kd.R (Kd.int .i64) 3 w' w.heap.size (fun _ => True) v0_ r ∧ Below w.heap.size w w' := by
  have HR := Aside0.mk hr0
  have HC0 := Aside0.mk hc0
  have HW := Aside0.mk h
  unfold item_order.f at HW
  clear h hr0 hc0
  have hmf := makeFunc_run
  have hen := enters_116
  go_enter Tryz.func64, Tryz.ntmps64
  go_wp2_with (go_at_call 116; (with_reducible refine (order_any l0 w A0 c0 HR.out HC0.out _ a1 (.slice none 0 0) [] r _ _ _ _ ?hL HW.out).mono ?_); (case hL => exact ⟨by (have := blk_alloc (heap_alloc_new (w.alloc (.cells #[.slice A0 l0.length c0] 35)) (.cells #[.slice none 0 0] 39)) (.cells #[.func (.func 116) #[] #[.pointer (some ⟨w.heap.size + 1, 0, none⟩), .pointer (some ⟨w.heap.size, 0, none⟩), .pointer (some ⟨w.heap.size + 2, 0, none⟩)]] 153); simpa [World.size_alloc] using this), blk_alloc (blk_alloc (heap_alloc_new w _) _) _, by (have := heap_alloc_new ((w.alloc (.cells #[.slice A0 l0.length c0] 35)).alloc (.cells #[.slice none 0 0] 39)) (.cells #[.func (.func 116) #[] #[.pointer (some ⟨w.heap.size + 1, 0, none⟩), .pointer (some ⟨w.heap.size, 0, none⟩), .pointer (some ⟨w.heap.size + 2, 0, none⟩)]] 153); simpa [World.size_alloc] using this), Kd.R_nil _ _ _ _ _, by omega, below_alloc (below_alloc (below_alloc (Below.refl _ _) _) _) _⟩); rintro e w' ⟨rfl, v', hL⟩; have HL := Aside0.mk hL; obtain ⟨Av, cv, rfl⟩ := Kd.R_slice hL.row; clear hL; have k9 : w'.cell? ⟨w.heap.size + 1, 0, none⟩ = some (.slice Av r.length cv) := (blk_cell HL.out.b1 0).trans rfl)
  go_ret
  exact ⟨_, rfl, HL.out.row, HL.out.below⟩
end Go.Proofs.YtphkionjjhhhlaaGreat.Q
end
section
namespace Go.Proofs.YtphkionjjhhhlaaGreat.Q
open Go.RowKit Go.Proofs.YtphkionjjhhhlaaGreatW.PrintWords Go.Proofs.YtphkionjjhhhlaaGreatW.PrintLast Go.Proofs.YtphkionjjhhhlaaGreatW.PrintMore
set_option maxHeartbeats 16000000 in
set_option maxRecDepth 100000 in
theorem made_over (x : S68) (hx : x.f1 = 2) (A2 : Option Addr) (c2 : Nat) (A3 : Option Addr) (c3 : Nat) (A4 : Option Addr) (c4 : Nat) (A9 : Option Addr) (c9 : Nat) (w : World) :
    Calls Tryz.prog 79 #[.agg #[.int .i64 x.f0, .int .i64 x.f1, .slice A2 x.f2.length c2, .slice A3 x.f3.length c3, .slice A4 x.f4.length c4, .int .i64 x.f5, .int .i64 x.f6, .int .i64 x.f7, .int .i64 x.f8, .slice A9 x.f9.length c9, .int .i64 x.f10, .bool x.f11]] w fun e w' => e = .returned (.iface 157 (.agg #[.int .i64 x.f0, .int .i64 x.f1, .slice A2 x.f2.length c2, .slice A3 x.f3.length c3, .slice A4 x.f4.length c4, .int .i64 x.f5, .int .i64 x.f6, .int .i64 x.f7, .int .i64 x.f8, .slice A9 x.f9.length c9, .int .i64 x.f10, .bool x.f11])) ∧ Below w.heap.size w w' := by
  have hu68 := Tryz.underlying68
  have q0 : (x.f1 == 0) = false := by rw [hx]; rfl
  have q1 : (x.f1 == 1) = false := by rw [hx]; rfl
  have q2 : (x.f1 == 2) = true := by rw [hx]; rfl
  clear hx
  go_enter Tryz.func79, Tryz.ntmps79
  go_wp2_with (first | ((with_reducible refine gate_dst (N := 1) rfl ?_); refine box_event ?hg (N := 1) ?hd (cs := #[.int .i64 x.f0, .int .i64 x.f1, .slice A2 x.f2.length c2, .slice A3 x.f3.length c3, .slice A4 x.f4.length c4, .int .i64 x.f5, .int .i64 x.f6, .int .i64 x.f7, .int .i64 x.f8, .slice A9 x.f9.length c9, .int .i64 x.f10, .bool x.f11]) (t := 68) ?hr ?_; (case hd => rfl); (case hg => rfl); (case hr => first | (go_simp; done) | (go_simp; rfl)); intro g1 hgg1 w2 hboxg1 hbg1; have BKg1 := Aside0.mk hboxg1; have HB2 := Aside0.mk hbg1; have k0 : w2.cell? ⟨g1, 0, none⟩ = some (.int .i64 x.f0) := (blk_cell BKg1.out 0).trans rfl; have k1 : w2.cell? ⟨g1, 1, none⟩ = some (.int .i64 x.f1) := (blk_cell BKg1.out 1).trans rfl; have k2 : w2.cell? ⟨g1, 2, none⟩ = some (.slice A2 x.f2.length c2) := (blk_cell BKg1.out 2).trans rfl; have k3 : w2.cell? ⟨g1, 3, none⟩ = some (.slice A3 x.f3.length c3) := (blk_cell BKg1.out 3).trans rfl; have k4 : w2.cell? ⟨g1, 4, none⟩ = some (.slice A4 x.f4.length c4) := (blk_cell BKg1.out 4).trans rfl; have k5 : w2.cell? ⟨g1, 5, none⟩ = some (.int .i64 x.f5) := (blk_cell BKg1.out 5).trans rfl; have k6 : w2.cell? ⟨g1, 6, none⟩ = some (.int .i64 x.f6) := (blk_cell BKg1.out 6).trans rfl; have k7 : w2.cell? ⟨g1, 7, none⟩ = some (.int .i64 x.f7) := (blk_cell BKg1.out 7).trans rfl; have k8 : w2.cell? ⟨g1, 8, none⟩ = some (.int .i64 x.f8) := (blk_cell BKg1.out 8).trans rfl; have k9 : w2.cell? ⟨g1, 9, none⟩ = some (.slice A9 x.f9.length c9) := (blk_cell BKg1.out 9).trans rfl; have k10 : w2.cell? ⟨g1, 10, none⟩ = some (.int .i64 x.f10) := (blk_cell BKg1.out 10).trans rfl; have k11 : w2.cell? ⟨g1, 11, none⟩ = some (.bool x.f11) := (blk_cell BKg1.out 11).trans rfl; clear hboxg1 hbg1 hgg1))
  go_ret
  exact ⟨rfl, HB2.out⟩
end Go.Proofs.YtphkionjjhhhlaaGreat.Q
end
section
namespace Go.Proofs.YtphkionjjhhhlaaGreat.Q
open Go.RowKit Go.Proofs.YtphkionjjhhhlaaGreatW.PrintWords Go.Proofs.YtphkionjjhhhlaaGreatW.PrintLast Go.Proofs.YtphkionjjhhhlaaGreatW.PrintMore
def bits_Mul64.f (a0 : Int) (a1 : Int) : Option (Int × Int) := some (IntKind.u64.wrap ((IntKind.u64.wrap ((IntKind.u64.wrap ((a0 / 4294967296) * (a1 / 4294967296))) + ((IntKind.u64.wrap ((IntKind.u64.wrap ((a0 / 4294967296) * (Go.bits .and .u64 a1 4294967295))) + ((IntKind.u64.wrap ((Go.bits .and .u64 a0 4294967295) * (Go.bits .and .u64 a1 4294967295))) / 4294967296))) / 4294967296))) + ((IntKind.u64.wrap ((Go.bits .and .u64 (IntKind.u64.wrap ((IntKind.u64.wrap ((a0 / 4294967296) * (Go.bits .and .u64 a1 4294967295))) + ((IntKind.u64.wrap ((Go.bits .and .u64 a0 4294967295) * (Go.bits .and .u64 a1 4294967295))) / 4294967296))) 4294967295) + (IntKind.u64.wrap ((Go.bits .and .u64 a0 4294967295) * (a1 / 4294967296))))) / 4294967296)), IntKind.u64.wrap (a0 * a1))
set_option maxHeartbeats 8000000 in
set_option maxRecDepth 100000 in
theorem bits_Mul64.calls (a0 : Int) (a1 : Int) (r1 : Int) (r2 : Int) (w : World) (h : bits_Mul64.f a0 a1 = some (r1, r2)) :
    Calls Tryz.prog 295 #[.int .u64 a0, .int .u64 a1] w fun e w' => e = .returned (.tuple #[.int .u64 r1, .int .u64 r2]) ∧ Drawn0 w w' := by
  have H : (some (IntKind.u64.wrap ((IntKind.u64.wrap ((IntKind.u64.wrap ((a0 / 4294967296) * (a1 / 4294967296))) + ((IntKind.u64.wrap ((IntKind.u64.wrap ((a0 / 4294967296) * (Go.bits .and .u64 a1 4294967295))) + ((IntKind.u64.wrap ((Go.bits .and .u64 a0 4294967295) * (Go.bits .and .u64 a1 4294967295))) / 4294967296))) / 4294967296))) + ((IntKind.u64.wrap ((Go.bits .and .u64 (IntKind.u64.wrap ((IntKind.u64.wrap ((a0 / 4294967296) * (Go.bits .and .u64 a1 4294967295))) + ((IntKind.u64.wrap ((Go.bits .and .u64 a0 4294967295) * (Go.bits .and .u64 a1 4294967295))) / 4294967296))) 4294967295) + (IntKind.u64.wrap ((Go.bits .and .u64 a0 4294967295) * (a1 / 4294967296))))) / 4294967296)), IntKind.u64.wrap (a0 * a1))) = some (r1, r2) := h
  clear h
  simp only [Option.some.injEq, Prod.mk.injEq] at H
  obtain ⟨rfl, rfl⟩ := H
  go_enter Tryz.func295, Tryz.ntmps295
  go_wp2
  go_ret2
  exact ⟨by first | rfl | (simp; done) | (simp [*]; done), by repeat (first | exact Drawn0.refl _ | apply Drawn0.step)⟩
end Go.Proofs.YtphkionjjhhhlaaGreat.Q
end
section
namespace Go.Proofs.YtphkionjjhhhlaaGreat.Q
open Go.RowKit Go.Proofs.YtphkionjjhhhlaaGreatW.PrintWords Go.Proofs.YtphkionjjhhhlaaGreatW.PrintLast Go.Proofs.YtphkionjjhhhlaaGreatW.PrintMore
def bits_Mul.f (a0 : Int) (a1 : Int) : Option (Int × Int) := (bits_Mul64.f a0 a1).bind fun bt793 => (some (bt793.1, bt793.2))
set_option maxHeartbeats 8000000 in
set_option maxRecDepth 100000 in
theorem bits_Mul.calls (a0 : Int) (a1 : Int) (r1 : Int) (r2 : Int) (w : World) (h : bits_Mul.f a0 a1 = some (r1, r2)) :
    Calls Tryz.prog 275 #[.int .u64 a0, .int .u64 a1] w fun e w' => e = .returned (.tuple #[.int .u64 r1, .int .u64 r2]) ∧ Drawn0 w w' := by
  have H : ((bits_Mul64.f a0 a1).bind fun bt793 => (some (bt793.1, bt793.2))) = some (r1, r2) := h
  clear h
  replace H := Option.bind_eq_some_iff.mp H
  obtain ⟨⟨t793, t794⟩, A30, H⟩ := H
  replace H : (some (t793, t794)) = some (r1, r2) := H
  have A3 := Aside0.mk A30
  clear A30
  simp only [Option.some.injEq, Prod.mk.injEq] at H
  obtain ⟨rfl, rfl⟩ := H
  go_enter Tryz.func275, Tryz.ntmps275
  go_wp2_with (first | ((with_reducible refine gate_callee (f := 295) rfl ?_); refine goesL_ (some 25) rfl rfl Tryz.func295 (by kernel_rfl) rfl #[.int .u64 a0, .int .u64 a1] rfl (by (try simp only [List.map_toArray, List.map_cons, List.map_nil]); first | done | rfl | (simp only [List.length_drop, List.length_take]; rfl)) ?_; (with_reducible refine (bits_Mul64.calls a0 a1 t793 t794 _ A3.out).mono ?_); rintro e w' ⟨rfl, ⟨nd, rfl⟩⟩; refine ⟨_, rfl, ?_⟩))
  go_ret2
  exact ⟨by first | rfl | (simp; done) | (simp [*]; done), by repeat (first | exact Drawn0.refl _ | apply Drawn0.step)⟩
end Go.Proofs.YtphkionjjhhhlaaGreat.Q
end
section
namespace Go.Proofs.YtphkionjjhhhlaaGreat.Q
open Go.RowKit Go.Proofs.YtphkionjjhhhlaaGreatW.PrintWords Go.Proofs.YtphkionjjhhhlaaGreatW.PrintLast Go.Proofs.YtphkionjjhhhlaaGreatW.PrintMore
theorem mul_one_u64 (n : Nat) (hn : n ≤ 1000000) : bits_Mul.f 1 (n : Int) = some (0, (n : Int)) := by
  have h1 : Go.bits .and .u64 1 4294967295 = 1 := by decide +kernel
  have h2 : Go.bits .and .u64 (n : Int) 4294967295 = ((n &&& 4294967295 : Nat) : Int) := bits_and_u64_nat n 4294967295 (by omega) (by decide)
  have h3 : n &&& 4294967295 ≤ n := Nat.and_le_left
  obtain ⟨m, hm⟩ : ∃ m, m = n &&& 4294967295 := ⟨_, rfl⟩
  rw [← hm] at h2 h3
  have w : ∀ z : Int, 0 ≤ z → z ≤ 10000000 → IntKind.u64.wrap z = z := fun z h0 h1 => by
    simp [IntKind.wrap, IntKind.bits, IntKind.signed]
    omega
  simp only [bits_Mul.f, bits_Mul64.f, h1, h2, Option.bind_some]
  have e1 : (1 : Int) / 4294967296 = 0 := by decide
  have e2 : (n : Int) / 4294967296 = 0 := by omega
  have e3 : (m : Int) / 4294967296 = 0 := by omega
  have w0 : IntKind.u64.wrap 0 = 0 := by decide
  have h4 : Go.bits .and .u64 0 4294967295 = 0 := by decide +kernel
  simp only [e1, e2, Int.zero_mul, Int.mul_zero, Int.one_mul, w0, Int.zero_add, w (m : Int) (by omega) (by omega), e3, h4, w (n : Int) (by omega) (by omega)]
  rfl
theorem rep_set (v z : Int) (m N : Nat) (h : m < N) : (List.replicate m v ++ List.replicate (N - m) z).set m v = List.replicate (m + 1) v ++ List.replicate (N - (m + 1)) z := by
  rw [List.set_append, List.length_replicate, if_neg (by omega), Nat.sub_self, show N - m = (N - (m + 1)) + 1 by omega, List.replicate_succ, List.set_cons_zero, List.replicate_succ']
  simp
theorem rep_fill (base : Nat) (ok : Nat → Prop) (g n cap : Nat) (v : Int) (N : Nat) : ∀ (k m : Nat) (w : World), m + k ≤ N → (Kd.int .i64).R 3 w base ok (.slice (some ⟨g, 0, none⟩) n cap) (List.replicate m v ++ List.replicate (N - m) 0) →
    (Kd.int .i64).R 3 (w.setCells g m (List.replicate k (.int .i64 v))) base ok (.slice (some ⟨g, 0, none⟩) n cap) (List.replicate (m + k) v ++ List.replicate (N - (m + k)) 0) ∧ w.grownBy (w.setCells g m (List.replicate k (.int .i64 v))) (some g)
  | 0, m, w, _, h => ⟨h, grown_refl _ _⟩
  | k + 1, m, w, hk, h => by
    have hp := Kd.R_putg h (m : Int) v
    rw [Int.toNat_natCast, rep_set v 0 m N (by omega)] at hp
    have h2 := rep_fill base ok g n cap v N k (m + 1) _ (by omega) hp.1
    rw [show m + 1 + k = m + (k + 1) by omega] at h2
    refine ⟨h2.1, ⟨h2.2.os.trans hp.2.os, h2.2.tape.trans hp.2.tape, h2.2.output.trans hp.2.output, Nat.le_trans hp.2.size h2.2.size, fun q hq hne => (h2.2.block q (Nat.lt_of_lt_of_le hq hp.2.size) hne).trans (hp.2.block q hq hne)⟩⟩
def slices_Repeat_int_int.f (l0 : List Int) (a1 : Int) : Option (List Int) := match l0 with
  | [v] => if 1 ≤ a1 ∧ a1 ≤ 1000000 then some (List.replicate a1.toNat v) else none
  | _ => none
def rep_walk.T9 : Bool × List (List Nat × List Nat) := (true, [([], []), ([], []), ([], []), ([1, 2], [1, 2]), ([], []), ([], []), ([4, 5], [4, 5]), ([3, 6], [3, 6]), ([0, 7], [0, 7]), ([8, 7, 0, 1, 2, 3, 4, 5, 6, 7, 8], [0, 2, 5, 8])])
def rep_walk.B9 : List Nat := [0, 0, 0, 6, 0, 0, 48, 126, 255, 511]
theorem rep_walk.tab9 : rtab .any (opsOf Tryz.f260 9) = rep_walk.T9 := by kernel_rfl
theorem rep_walk.bits9 : waitsOk rep_walk.T9.2 rep_walk.B9 = true := by kernel_rfl
set_option maxHeartbeats 16000000 in
set_option maxRecDepth 100000 in
theorem slices_Repeat_int_int.calls (A0 : Option Addr) (c0 : Nat) (l0 : List Int) (a1 : Int) (r : List Int) (w : World) (hr0 : Kd.C (Kd.int .i64) w A0 l0.length l0) (hc0 : l0.length ≤ c0) (h : slices_Repeat_int_int.f l0 a1 = some r) :
    Calls Tryz.prog 260 #[.slice A0 l0.length c0, .int .i64 a1] w fun e w' => ∃ v0_ : Value, e = .returned (v0_) ∧ Kd.R (Kd.int .i64) 3 w' w.heap.size (fun _ => True) v0_ r ∧ Below w.heap.size w w' := by
  unfold slices_Repeat_int_int.f at h
  split at h
  case h_2 => cases h
  case h_1 v =>
  split at h
  case isFalse => cases h
  case isTrue hk =>
  obtain rfl := Option.some.inj h
  obtain ⟨N, rfl⟩ : ∃ N : Nat, a1 = (N : Int) := ⟨a1.toNat, by omega⟩
  rw [Int.toNat_natCast]
  have HK : Aside0 (1 ≤ N ∧ N ≤ 1000000) := ⟨by omega⟩
  have HR := Aside0.mk hr0
  have HM := Aside0.mk (mul_one_u64 N HK.out.2)
  have q0 : decide ((N : Int) < 0) = false := decide_eq_false (by omega)
  have q1 : IntKind.u64.wrap (N : Int) = (N : Int) := by have := HK.out; simp [IntKind.wrap, IntKind.bits, IntKind.signed]; omega
  have q2 : IntKind.i64.wrap (N : Int) = (N : Int) := by have := HK.out; simp [IntKind.wrap, IntKind.bits, IntKind.signed]; omega
  have q3 : decide (9223372036854775807 < (N : Int)) = false := decide_eq_false (by omega)
  clear hk hr0 hc0 h
  simp only [List.length_singleton] at *
  go_enter Tryz.func260, Tryz.ntmps260
  go_wp2_with (first | (go_at_call 275; (with_reducible refine (bits_Mul.calls 1 (N : Int) 0 (N : Int) _ HM.out).mono ?_); rintro e w' ⟨rfl, ⟨nd, rfl⟩⟩) | ((with_reducible refine gate_dst (N := 30) rfl ?_); refine Kd.R_make (Kd.int .i64) _ 3 rfl (N := 30) rfl 39 _ _ rfl (N : Int) rfl rfl Tryz.underlying39 (.int .i64 0) 8 info3 rfl (by decide) (by omega) 0 (ok := fun _ => True) (okp := fun _ => True) rfl (fun _ hk => hk) trivial (by omega) (by have := HK.out; omega) (pw_below_drewN (Below.refl w.heap.size w) nd) (Nat.le_refl _) ?_; intro v1 w1 hv1 hb1 _ _; rw [Int.toNat_natCast] at hv1; obtain ⟨g, cap, rfl, hbg, hgl, cells, hcells⟩ := Kd.R_form hv1 (by rw [List.length_replicate]; have := HK.out; omega); rw [List.length_replicate] at hv1; simp only [List.length_replicate]; have HV := Aside0.mk hv1; have HG := Aside0.mk (And.intro hbg (Kd.R_reads' hv1).2.1); have HB := Aside0.mk hb1; clear hv1 hb1 hbg hgl hcells) | ((with_reducible refine gate_dst (N := 33) rfl ?_); go_loud (refine Kd.R_copy (0 : Int) (w0 := w) w.heap.size rfl (.tmp 31) (.tmp 32) 39 39 3 rfl Tryz.underlying39 (by kernel_rfl) (.slice (some ⟨g, 0, none⟩) N cap) (List.replicate N 0) [v] A0 1 c0 (fun _ => True) rfl rfl HV.out (Kd.C_below HR.out HB.out) HB.out HB.out.size ?_; intro w2 hv2 hb2 _; have e0 : min 1 (List.replicate N (0 : Int)).length = 1 := (by rw [List.length_replicate]; have := HK.out; omega); rw [e0] at hv2; rw [e0]; have HV2 := Aside0.mk (show (Kd.int .i64).R 3 w2 w.heap.size (fun _ => True) (.slice (some ⟨g, 0, none⟩) N cap) (List.replicate 1 v ++ List.replicate (N - 1) 0) from (by rw [← List.drop_replicate]; exact hv2)); have HB2 := Aside0.mk hb2; clear hv2 hb2 e0)))
  go_loopg [8] N (fun kq v8 w' => ∃ (m : Nat), v8 = .int .i64 (m : Int) ∧ Aside0 (1 ≤ m ∧ m ≤ N ∧ N ≤ m + kq) ∧ Aside0 ((Kd.int .i64).R 3 w' w.heap.size (fun _ => True) (.slice (some ⟨g, 0, none⟩) N cap) (List.replicate m v ++ List.replicate (N - m) 0)) ∧ Aside0 (Below w.heap.size w w'))
  case atStart => exact ⟨1, rfl, ⟨by omega, HK.out.1, by omega⟩, HV2, HB2⟩
  case round =>
    clear HV HB HV2 HB2
    obtain ⟨m, rfl, HI, HV, HB⟩ := hrel
    by_cases hmn : m < N
    · cases gk with
      | zero => exact absurd HI.out (by omega)
      | succ kq1 =>
      have hlt : decide ((m : Int) < (N : Int)) = true := decide_eq_true (by omega)
      have hlt' : decide (m < N) = true := decide_eq_true hmn
      obtain ⟨k, hkk⟩ : ∃ k, k = min m (N - m) := ⟨_, rfl⟩
      have HKK : Aside0 (k = min m (N - m) ∧ m + k ≤ N ∧ 1 ≤ k) := ⟨hkk, by omega, by have := HI.out; omega⟩
      have hw : wrap64 ((m : Int) + (k : Int)) = ((m + k : Nat) : Int) := by have := HKK.out; have := HK.out; unfold wrap64; omega
      have HF := Aside0.mk (rep_fill w.heap.size (fun _ => True) g N cap v N k m wr.drew HKK.out.2.1 (Kd.R_drew HV.out))
      have hcap := HG.out.2
      have s0 : decide (0 ≤ (m : Int)) = true := decide_eq_true (by omega)
      have s1 : decide ((m : Int) ≤ (N : Int)) = true := decide_eq_true (by omega)
      have s2 : decide ((m : Int) ≤ (cap : Int)) = true := decide_eq_true (by omega)
      have s3 : decide ((N : Int) ≤ (cap : Int)) = true := decide_eq_true (by omega)
      have s4 : decide (0 ≤ (N : Int)) = true := decide_eq_true (by omega)
      have r0 : (0 ≤ (m : Int)) = True := eq_true (by omega)
      have r1 : ((m : Int) ≤ (N : Int)) = True := eq_true (by omega)
      have r2 : ((m : Int) ≤ (cap : Int)) = True := eq_true (by omega)
      have r3 : ((N : Int) ≤ (cap : Int)) = True := eq_true (by omega)
      have r4 : (m ≤ N) = True := eq_true (by omega)
      have r5 : (N ≤ cap) = True := eq_true (by omega)
      have r6 : (m ≤ cap) = True := eq_true (by omega)
      have t1 : (cap - m = 0) = False := eq_false (by omega)
      have t4 : (cap ≤ m) = False := eq_false (by omega)
      have t5 : (m = cap) = False := eq_false (by omega)
      have t6 : (cap = m) = False := eq_false (by omega)
      clear hkk hmn
      go_wp2
      refine start_ (n := 10) (S := fun w' => True) (ds := []) #[false, false, false, false, false, false, false, false, false, false] (by kernel_rfl) rfl rfl trivial (fun hHeld => ?_); refine with_tabW rep_walk.tab9 rep_walk.bits9 (fun HT_ HW_ => ?_)
      have HB9 : Aside0 (Below w.heap.size w (wr.drew.setCells g m (List.replicate k (.int .i64 v)))) := ⟨(below_drew1 HB.out).grown HF.out.2 HB.out.size (fun q hq => by injection hq with hq; subst hq; exact HG.out.1)⟩
      have HVd := Aside0.mk (Kd.R_drew HV.out)
      clear HV HB
      generalize wr.drew = wd at *
      refine pure_ (i := 0) (N := some 38) (v := ?_) (a' := ?_) #[true, false, false, false, false, false, false, false, false, false] rfl rfl (any_of HT_.out (by kernel_rfl)) (fun _ _ _ h => h) (Or.inl ⟨by rfl, ?_⟩) ?_ ?_
      rotate_left
      · intro w'
        go_simp
        with_reducible rfl
      rotate_left
      · simp only [Act.put, List.setIfInBounds_toArray, List.set_cons_zero, List.set_cons_succ, i64_w, i32_w]
        rfl
      refine pure_ (i := 1) (N := some 39) (v := ?_) (a' := ?_) #[true, true, false, false, false, false, false, false, false, false] rfl rfl (any_of HT_.out (by kernel_rfl)) (fun _ _ _ h => h) (Or.inl ⟨by rfl, ?_⟩) ?_ ?_
      rotate_left
      · intro w'
        go_simp
        with_reducible rfl
      rotate_left
      · simp only [Act.put, List.setIfInBounds_toArray, List.set_cons_zero, List.set_cons_succ, i64_w, i32_w]
        rfl
      refine pure_ (i := 2) (N := some 40) (v := ?_) (a' := ?_) #[true, true, true, false, false, false, false, false, false, false] rfl rfl (any_of HT_.out (by kernel_rfl)) (fun _ _ _ h => h) (Or.inl ⟨by rfl, ?_⟩) ?_ ?_
      rotate_left
      · intro w'
        go_simp
        with_reducible rfl
      rotate_left
      · simp only [Act.put, List.setIfInBounds_toArray, List.set_cons_zero, List.set_cons_succ, i64_w, i32_w]
        rfl
      refine pure_ (i := 3) (N := some 41) (v := ?_) (a' := ?_) #[true, true, true, true, false, false, false, false, false, false] rfl rfl (any_of HT_.out (by kernel_rfl)) (fun _ _ _ h => h) (Or.inl ⟨by rfl, ?_⟩) ?_ ?_
      rotate_left
      · intro w'
        go_simp
        with_reducible rfl
      rotate_left
      · simp only [Act.put, List.setIfInBounds_toArray, List.set_cons_zero, List.set_cons_succ, i64_w, i32_w]
        rfl
      refine pure_ (i := 4) (N := some 42) (v := ?_) (a' := ?_) #[true, true, true, true, true, false, false, false, false, false] rfl rfl (any_of HT_.out (by kernel_rfl)) (fun _ _ _ h => h) (Or.inl ⟨by rfl, ?_⟩) ?_ ?_
      rotate_left
      · intro w'
        go_simp
        with_reducible rfl
      rotate_left
      · simp only [Act.put, List.setIfInBounds_toArray, List.set_cons_zero, List.set_cons_succ, i64_w, i32_w]
        rfl
      refine pure_ (i := 5) (N := some 43) (v := ?_) (a' := ?_) #[true, true, true, true, true, true, false, false, false, false] rfl rfl (any_of HT_.out (by kernel_rfl)) (fun _ _ _ h => h) (Or.inl ⟨by rfl, ?_⟩) ?_ ?_
      rotate_left
      · intro w'
        go_simp
        with_reducible rfl
      rotate_left
      · simp only [Act.put, List.setIfInBounds_toArray, List.set_cons_zero, List.set_cons_succ, i64_w, i32_w]
        rfl
      refine pure_ (i := 6) (N := some 44) (v := ?_) (a' := ?_) #[true, true, true, true, true, true, true, false, false, false] rfl rfl (any_of HT_.out (by kernel_rfl)) (fun _ _ _ h => h) (Or.inl ⟨by rfl, ?_⟩) ?_ ?_
      rotate_left
      · intro w'
        go_simp
        with_reducible rfl
      rotate_left
      · simp only [Act.put, List.setIfInBounds_toArray, List.set_cons_zero, List.set_cons_succ, i64_w, i32_w]
        rfl
      refine one_ (i := 7) (N := some 45) #[true, true, true, true, true, true, true, true, false, false] rfl rfl (one_of HT_.out (by kernel_rfl)) (by decide) (fun K hK => ?_)
      have hsrc : ∀ (j : Nat) (u : Value), (List.replicate k (Value.int .i64 v))[j]? = some u → wd.cell? ((⟨g, 0, none⟩ : Addr).add j) = some u := fun j u hj => by
        rw [List.getElem?_replicate] at hj
        split at hj
        case isFalse => cases hj
        case isTrue hjl =>
        obtain rfl := Option.some.inj hj
        have h9 := (Kd.R_celln 0 HVd.out (j : Int) (by omega) (by have := HKK.out; omega)).1
        rw [Int.toNat_natCast, rdOf, Int.toNat_natCast, List.getD_eq_getElem?_getD, List.getElem?_append_left (by rw [List.length_replicate]; have := HKK.out; omega), List.getElem?_replicate, if_pos (by have := HKK.out; omega)] at h9
        rw [add_plain]
        exact h9
      have hcells : ∀ j, j < (List.replicate k (Value.int .i64 v)).length → wd.cell? ⟨g, m + j, none⟩ = some (.int .i64 (rdOf 0 (List.replicate m v ++ List.replicate (N - m) 0) ((m + j : Nat) : Int))) ∧ wd.frozen? ⟨g, m + j, none⟩ = false := fun j hj => by
        rw [List.length_replicate] at hj
        have h9 := Kd.R_celln 0 HVd.out ((m + j : Nat) : Int) (by omega) (by have := HKK.out; omega)
        rwa [Int.toNat_natCast] at h9
      have hrc := run_copy_cells (P := Tryz.prog) wd 39 39 3 3 g m (N - m) (cap - m) ⟨g, 0, none⟩ m cap (List.replicate k (.int .i64 v)) Tryz.underlying39 (by kernel_rfl) (by rw [List.length_replicate]; exact HKK.out.1) hsrc (fun j hj => by rw [(hcells j hj).1]; rfl) (fun j hj => (hcells j hj).2) (fun u hu => by rw [List.eq_of_mem_replicate hu]; rfl)
      rw [List.length_replicate] at hrc
      clear hsrc hcells
      refine value_ (w1 := wd.setCells g m (List.replicate k (.int .i64 v))) (v := .int .i64 (k : Int)) (by rfl) rfl ?_ ?_
      · go_simp
      refine hK.out _ _ trivial (fun hHeld => ?_)
      clear hK K
      refine norm_ (a' := ?_) ?_ ?_
      rotate_left
      · show Act.put _ (some 45) _ = _
        simp only [Act.put, List.setIfInBounds_toArray, List.set_cons_zero, List.set_cons_succ, i64_w, i32_w]
        rfl
      refine pure_ (i := 8) (N := some 46) (v := ?_) (a' := ?_) #[true, true, true, true, true, true, true, true, true, false] rfl rfl (any_of HT_.out (by kernel_rfl)) (fun _ _ _ h => h) (Or.inl ⟨by rfl, ?_⟩) ?_ ?_
      rotate_left
      · intro w'
        go_simp
        with_reducible rfl
      rotate_left
      · simp only [Act.put, List.setIfInBounds_toArray, List.set_cons_zero, List.set_cons_succ, i64_w, i32_w]
        rfl
      refine pure_ (i := 9) (N := some 8) (v := ?_) (a' := ?_) #[true, true, true, true, true, true, true, true, true, true] rfl rfl (any_of HT_.out (by kernel_rfl)) (fun _ _ _ h => h) (Or.inl ⟨by rfl, ?_⟩) ?_ ?_
      rotate_left
      · intro w'
        go_simp
        with_reducible rfl
      rotate_left
      · simp only [Act.put, List.setIfInBounds_toArray, List.set_cons_zero, List.set_cons_succ, i64_w, i32_w]
        rfl
      refine done_ (done_of HT_.out (by kernel_rfl)) ?_
      go_wp2
      go_roundg kq1
      case measure => omega
      case rel => exact ⟨m + k, (by first | rfl | exact congrArg _ (by omega)), ⟨by have := HI.out; omega, by have := HKK.out; omega, by have := HI.out; have := HKK.out; omega⟩, ⟨HF.out.1⟩, ⟨HB9.out⟩⟩
    · have hlt : decide ((m : Int) < (N : Int)) = false := decide_eq_false (by omega)
      have hlt' : decide (m < N) = false := decide_eq_false hmn
      have hmN : m = N := by have := HI.out; omega
      go_wp2
      go_ret
      exact ⟨_, rfl, by have h9 := HV.out; rw [hmN, Nat.sub_self, List.replicate_zero, List.append_nil] at h9; exact h9, HB.out⟩
end Go.Proofs.YtphkionjjhhhlaaGreat.Q
end
section
namespace Go.Proofs.YtphkionjjhhhlaaGreat.Q
open Go.RowKit Go.Proofs.YtphkionjjhhhlaaGreatW.PrintWords Go.Proofs.YtphkionjjhhhlaaGreatW.PrintLast Go.Proofs.YtphkionjjhhhlaaGreatW.PrintMore
def canvasP (x : S68) : List (List Int) := x.f9.map fun v => List.replicate (x.f7 * x.f8).toNat v
def draw_walk.T5 : Bool × List (List Nat × List Nat) := (true, [([], []), ([0], [0]), ([], []), ([2], [2]), ([], []), ([4], [4]), ([], []), ([6], [6]), ([5, 7], [5, 7]), ([3, 8], [3, 8]), ([9], [9]), ([1, 10, 9], [1, 10]), ([0, 1, 2, 3, 4, 5, 6, 7, 8, 9, 10, 11], []), ([12, 11, 11, 0, 1, 2, 3, 4, 5, 6, 7, 8, 9, 10, 11], [11, 12])])
def draw_walk.B5 : List Nat := [0, 1, 0, 4, 0, 16, 0, 64, 240, 508, 1020, 2047, 4095, 8191]
theorem draw_walk.tab5 : rtab .any (opsOf Tryz.f322 5) = draw_walk.T5 := by kernel_rfl
theorem draw_walk.bits5 : waitsOk draw_walk.T5.2 draw_walk.B5 = true := by kernel_rfl
theorem C_one (w : World) (v : Int) : Kd.C (Kd.int .i64) (w.alloc (.cells #[.int .i64 v] 3)) (some ⟨w.heap.size, 0, none⟩) [v].length [v] := by
  have h : (Kd.int .i64).R 3 (w.alloc (.cells #[.int .i64 v] 3)) w.heap.size (fun _ => True) (.slice (some ⟨w.heap.size, 0, none⟩) 1 1) [v] :=
    ⟨fun _ _ => trivial, OwnRow.lit w w.heap.size (inner := [.int .i64 v]) (ps := [v]) ⟨rfl, fun j p hj => by
      cases j with
      | zero => exact Option.some.inj hj ▸ rfl
      | succ j => simp at hj⟩ (Nat.le_refl _) (by simp)⟩
  exact (Kd.R_reads' h).2.2
set_option maxHeartbeats 16000000 in
set_option maxRecDepth 100000 in
theorem draw_canvas (x : S68) (A2 : Option Addr) (c2 : Nat) (A3 : Option Addr) (c3 : Nat) (A4 : Option Addr) (c4 : Nat) (A9 : Option Addr) (c9 : Nat) (A1 : Option Addr) (c1 : Nat) (w : World) (hr9 : Kd.C (Kd.int .i64) w A9 x.f9.length x.f9) (hx : 1 ≤ x.f7 ∧ x.f7 ≤ 1000 ∧ 1 ≤ x.f8 ∧ x.f8 ≤ 1000 ∧ x.f9.length ≤ 1000) :
    Calls Tryz.prog 322 #[.agg #[.int .i64 x.f0, .int .i64 x.f1, .slice A2 x.f2.length c2, .slice A3 x.f3.length c3, .slice A4 x.f4.length c4, .int .i64 x.f5, .int .i64 x.f6, .int .i64 x.f7, .int .i64 x.f8, .slice A9 x.f9.length c9, .int .i64 x.f10, .bool x.f11], .slice A1 0 c1] w fun e w' => ∃ v3_ : Value, e = .returned (.agg #[.int .i64 x.f7, .int .i64 x.f8, .int .i64 8, v3_]) ∧ Kd.S (Kd.slice 3 (Kd.int .i64)) 39 w' w.heap.size (fun _ => True) v3_ (canvasP x) ∧ Below w.heap.size w w' := by
  have HX := Aside0.mk hx
  have HR := Aside0.mk hr9
  clear hx hr9
  have hu24 := Tryz.underlying24
  have hu157 := Tryz.underlying157
  have hlen := Aside0.mk HR.out.2.1
  go_enter Tryz.func322, Tryz.ntmps322
  go_wp2_with (first | ((with_reducible refine gate_dst (N := 2) rfl ?_); refine box_event ?hg (N := 2) ?hd (cs := #[.int .i64 x.f0, .int .i64 x.f1, .slice A2 x.f2.length c2, .slice A3 x.f3.length c3, .slice A4 x.f4.length c4, .int .i64 x.f5, .int .i64 x.f6, .int .i64 x.f7, .int .i64 x.f8, .slice A9 x.f9.length c9, .int .i64 x.f10, .bool x.f11]) (t := 157) ?hr ?_; (case hd => rfl); (case hg => rfl); (case hr => first | (go_simp; done) | (go_simp; rfl)); intro g2 hgg2 w2 hboxg2 hbg2; have BKg2 := Aside0.mk hboxg2; have HB2 := Aside0.mk hbg2; clear hboxg2 hbg2 hgg2) | ((with_reducible refine gate_dst (N := 4) rfl ?_); refine box_event ?hg (N := 4) ?hd (cs := #[.int .i64 0, .int .i64 0, .int .i64 0, .slice none 0 0]) (t := 24) ?hr ?_; (case hd => rfl); (case hg => rfl); (case hr => first | (go_simp; done) | (go_simp; rfl)); intro g4 hgg4 w3 hboxg4 hbg4; have BKg4 := Aside0.mk hboxg4; have GE4 : Aside0 (w.heap.size ≤ g4) := ⟨by have := HB2.out.size; omega⟩; have HB3 := Aside0.mk (pw_below_trans HB2.out hbg4); replace BKg2 := Aside0.mk (blk_below BKg2.out hbg4); have k7 : w3.cell? ⟨g2, 7, none⟩ = some (.int .i64 x.f7) := (blk_cell BKg2.out 7).trans rfl; have k8 : w3.cell? ⟨g2, 8, none⟩ = some (.int .i64 x.f8) := (blk_cell BKg2.out 8).trans rfl; clear hboxg4 hbg4 hgg4) | ((with_reducible refine gate_dst (N := 5) rfl ?_); refine box_event ?hg (N := 5) ?hd (cs := #[.int .i64 0, .int .i64 0, .int .i64 0, .slice none 0 0]) (t := 24) ?hr ?_; (case hd => rfl); (case hg => rfl); (case hr => first | (go_simp; done) | (go_simp; rfl)); intro g5 hgg5 w4 hboxg5 hbg5; have BKg5 := Aside0.mk hboxg5; have GE5 : Aside0 (w.heap.size ≤ g5) := ⟨by have := HB3.out.size; omega⟩; have NE45 : Aside0 (g4 ≠ g5) := ⟨by have := blk_lt BKg4.out; omega⟩; have NE25 : Aside0 (g2 ≠ g5) := ⟨by have := blk_lt BKg2.out; omega⟩; replace BKg4 := Aside0.mk (blk_below BKg4.out hbg5); replace BKg2 := Aside0.mk (blk_below BKg2.out hbg5); have HB4 := Aside0.mk (pw_below_trans HB3.out hbg5); clear k7 k8; have z0 : w4.cell? ⟨g5, 0, none⟩ = some (.int .i64 0) := (blk_cell BKg5.out 0).trans rfl; have z1 : w4.cell? ⟨g5, 1, none⟩ = some (.int .i64 0) := (blk_cell BKg5.out 1).trans rfl; have z2 : w4.cell? ⟨g5, 2, none⟩ = some (.int .i64 0) := (blk_cell BKg5.out 2).trans rfl; have z3 : w4.cell? ⟨g5, 3, none⟩ = some (.slice none 0 0) := (blk_cell BKg5.out 3).trans rfl; have fz0 := blk_frozen BKg5.out 0; have fz1 := blk_frozen BKg5.out 1; have fz2 := blk_frozen BKg5.out 2; have fz3 := blk_frozen BKg5.out 3; have m9 : ∀ v0 v1 v2 v3 : Value, ((((w4.setCell ⟨g5, 0, none⟩ v0).setCell ⟨g5, 1, none⟩ v1).setCell ⟨g5, 2, none⟩ v2).setCell ⟨g5, 3, none⟩ v3).cell? ⟨g2, 9, none⟩ = some (.slice A9 x.f9.length c9) := fun v0 v1 v2 v3 => (blk_cell (four_far BKg2.out NE25.out v0 v1 v2 v3) 9).trans rfl; clear hboxg5 hbg5 hgg5))
  clear z0 z1 z2 z3 fz0 fz1 fz2 fz3 m9
  go_loopg [18] x.f9.length (fun kq v18 w' => ∃ (i : Int) (u : Value), v18 = .int .i64 i ∧ Aside0 (0 ≤ i ∧ i + kq = x.f9.length) ∧ Aside0 (Kd.S (Kd.slice 3 (Kd.int .i64)) 39 w' w.heap.size (fun _ => True) u ((x.f9.take i.toNat).map fun v => List.replicate (x.f7 * x.f8).toNat v)) ∧ Aside0 (w'.heap[g2]? = some (.cells #[.int .i64 x.f0, .int .i64 x.f1, .slice A2 x.f2.length c2, .slice A3 x.f3.length c3, .slice A4 x.f4.length c4, .int .i64 x.f5, .int .i64 x.f6, .int .i64 x.f7, .int .i64 x.f8, .slice A9 x.f9.length c9, .int .i64 x.f10, .bool x.f11] 157 (0, 0))) ∧ Aside0 (w'.heap[g4]? = some (.cells #[.int .i64 0, .int .i64 0, .int .i64 0, .slice none 0 0] 24 (0, 0))) ∧ Aside0 (w'.heap[g5]? = some (.cells #[.int .i64 x.f7, .int .i64 x.f8, .int .i64 8, u] 24 (0, 0))) ∧ Aside0 (Below w.heap.size w w'))
  case atStart => exact ⟨0, .slice none 0 0, rfl, ⟨by omega, by omega⟩, ⟨Kd.S_nil _ _ _ _ _⟩, ⟨four_far BKg2.out NE25.out _ _ _ _⟩, ⟨four_far BKg4.out NE45.out _ _ _ _⟩, ⟨four_put BKg5.out _ _ _ _⟩, ⟨four_below HB4.out GE5.out _ _ _ _⟩⟩
  case round =>
    clear BKg2 BKg4 BKg5 HB4 HB3 HB2
    obtain ⟨i, u, rfl, HI, HS, BKg2, BKg4, BKg5, HB⟩ := hrel
    obtain ⟨Au, cu, rfl⟩ := Kd.S_slice HS.out
    cases gk with
    | zero =>
      have hge : decide (i < (x.f9.length : Int)) = false := by have := HI.out; simp; omega
      rw [List.take_of_length_le (by have := HI.out; omega)] at HS
      rw [List.take_of_length_le (by have := HI.out; omega)] at BKg5
      rw [List.length_map] at BKg5 HS
      go_wp2
      go_loopg [38] 0 (fun kq v38 w' => v38 = .int .i64 0 ∧ w' = wr)
      case atStart => exact ⟨rfl, rfl⟩
      case round =>
        obtain ⟨rfl, rfl⟩ := hrel
        have k0 : _root_.Go.World.cell? _ ⟨g5, 0, none⟩ = some (.int .i64 x.f7) := (blk_cell BKg5.out 0).trans rfl; have k1 : _root_.Go.World.cell? _ ⟨g5, 1, none⟩ = some (.int .i64 x.f8) := (blk_cell BKg5.out 1).trans rfl; have k2 : _root_.Go.World.cell? _ ⟨g5, 2, none⟩ = some (.int .i64 8) := (blk_cell BKg5.out 2).trans rfl; have k3 : _root_.Go.World.cell? _ ⟨g5, 3, none⟩ = some (.slice Au x.f9.length cu) := (blk_cell BKg5.out 3).trans rfl
        have z0 : _root_.Go.World.cell? _ ⟨g4, 0, none⟩ = some (.int .i64 0) := (blk_cell BKg4.out 0).trans rfl; have z1 : _root_.Go.World.cell? _ ⟨g4, 1, none⟩ = some (.int .i64 0) := (blk_cell BKg4.out 1).trans rfl; have z2 : _root_.Go.World.cell? _ ⟨g4, 2, none⟩ = some (.int .i64 0) := (blk_cell BKg4.out 2).trans rfl; have z3 : _root_.Go.World.cell? _ ⟨g4, 3, none⟩ = some (.slice none 0 0) := (blk_cell BKg4.out 3).trans rfl
        have fz0 := blk_frozen BKg4.out 0; have fz1 := blk_frozen BKg4.out 1; have fz2 := blk_frozen BKg4.out 2; have fz3 := blk_frozen BKg4.out 3
        go_wp2
        refine bodyPost_ret (results_cell_row rfl _ _ g4 24 #[.int .i64 x.f7, .int .i64 x.f8, .int .i64 8, .slice Au x.f9.length cu] (0, 0) _ rfl (four_put BKg4.out _ _ _ _) Tryz.underlying24 rfl (by kernel_rfl)) rfl ?_
        exact ⟨_, rfl, four_S HS.out BKg4.out (by decide) _ _ _ _, four_below HB.out GE4.out _ _ _ _⟩
    | succ kq1 =>
      have h0 : 0 ≤ i := by have := HI.out; omega
      have h1 : i < (x.f9.length : Int) := by have := HI.out; omega
      have hge : decide (i < (x.f9.length : Int)) = true := decide_eq_true h1
      have hg0 : decide (0 ≤ i) = true := decide_eq_true h0
      obtain ⟨ad, e0, hc⟩ := ReadsInt.at_ (Kd.reads_of_C (d := 0) HR.out : ReadsInt w .i64 A9 x.f9.length x.f9) i h0 h1
      cases e0
      replace hc := (HB.out.cell (World.block_lt_of_cell? w _ hc)).trans hc
      have hxx : x.f9[i.toNat]? = some (rd x.f9 i) := by
        have hl : i.toNat < x.f9.length := by omega
        simp [rd, List.getElem?_eq_getElem hl, List.getD_eq_getElem?_getD]
      have htk : (x.f9.take (i.toNat + 1)).map (fun v => List.replicate (x.f7 * x.f8).toNat v) = ((x.f9.take i.toNat).map fun v => List.replicate (x.f7 * x.f8).toNat v) ++ [List.replicate (x.f7 * x.f8).toNat (rd x.f9 i)] := by
        rw [List.take_add_one, hxx]
        simp
      have HTK := Aside0.mk htk
      clear hxx htk
      generalize rd x.f9 i = v9 at *
      have hm : 1 ≤ x.f7 * x.f8 ∧ x.f7 * x.f8 ≤ 1000000 := ⟨by have := Int.mul_le_mul HX.out.1 HX.out.2.2.1 (by omega) (by have := HX.out; omega); omega, by have := Int.mul_le_mul HX.out.2.1 HX.out.2.2.2.1 (by have := HX.out; omega) (by omega); omega⟩
      have hwm : wrap64 (x.f7 * x.f8) = x.f7 * x.f8 := by unfold wrap64; omega
      have HRP : Aside0 (slices_Repeat_int_int.f [v9] (x.f7 * x.f8) = some (List.replicate (x.f7 * x.f8).toNat v9)) := ⟨if_pos hm⟩
      have hw : Aside0 (wrap64 (i + 1) = i + 1 ∧ (i + 1).toNat = i.toNat + 1) := ⟨by have := HI.out; have := HX.out; unfold wrap64; omega, by omega⟩
      have hpl : Aside0 (((x.f9.take i.toNat).map fun v => List.replicate (x.f7 * x.f8).toNat v).length ≤ 1000) := ⟨by rw [List.length_map, List.length_take]; have := HX.out; omega⟩
      generalize ((x.f9.take i.toNat).map fun v => List.replicate (x.f7 * x.f8).toNat v) = pl at *
      clear hm
      replace h0 := eq_true h0
      replace h1 := eq_true h1
      go_wp2
      refine start_ (n := 14) (S := fun w' => w'.cell? ⟨g5, 3, none⟩ = some (.slice Au pl.length cu) ∧ w'.cell? ⟨g2, 7, none⟩ = some (.int .i64 x.f7) ∧ w'.cell? ⟨g2, 8, none⟩ = some (.int .i64 x.f8)) (ds := [13]) #[false, false, false, false, false, false, false, false, false, false, false, false, false, false] (by kernel_rfl) rfl rfl ⟨(blk_cell (blk_drew BKg5.out) 3).trans rfl, (blk_cell (blk_drew BKg2.out) 7).trans rfl, (blk_cell (blk_drew BKg2.out) 8).trans rfl⟩ (fun hHeld => ?_); refine with_tabW draw_walk.tab5 draw_walk.bits5 (fun HT_ HW_ => ?_)
      replace HS := Aside0.mk (Kd.S_drew HS.out)
      replace BKg2 := Aside0.mk (blk_drew BKg2.out)
      replace BKg4 := Aside0.mk (blk_drew BKg4.out)
      replace BKg5 := Aside0.mk (blk_drew BKg5.out)
      replace HB := Aside0.mk (below_drew1 HB.out)
      generalize wr.drew = wd at *
      refine pure_ (i := 0) (N := some 22) (v := ?_) (a' := ?_) #[true, false, false, false, false, false, false, false, false, false, false, false, false, false] rfl rfl (any_of HT_.out (by kernel_rfl)) (fun _ _ _ h => h) (Or.inl ⟨by rfl, ?_⟩) ?_ ?_
      rotate_left
      · intro w'
        go_simp
        with_reducible rfl
      rotate_left
      · simp only [Act.put, List.setIfInBounds_toArray, List.set_cons_zero, List.set_cons_succ, i64_w, i32_w, hwm]
        rfl
      refine pure_ (i := 2) (N := some 24) (v := ?_) (a' := ?_) #[true, false, true, false, false, false, false, false, false, false, false, false, false, false] rfl rfl (any_of HT_.out (by kernel_rfl)) (fun _ _ _ h => h) (Or.inl ⟨by rfl, ?_⟩) ?_ ?_
      rotate_left
      · intro w'
        go_simp
        with_reducible rfl
      rotate_left
      · simp only [Act.put, List.setIfInBounds_toArray, List.set_cons_zero, List.set_cons_succ, i64_w, i32_w, hwm]
        rfl
      refine pure_ (i := 4) (N := some 26) (v := ?_) (a' := ?_) #[true, false, true, false, true, false, false, false, false, false, false, false, false, false] rfl rfl (any_of HT_.out (by kernel_rfl)) (fun _ _ _ h => h) (Or.inl ⟨by rfl, ?_⟩) ?_ ?_
      rotate_left
      · intro w'
        go_simp
        with_reducible rfl
      rotate_left
      · simp only [Act.put, List.setIfInBounds_toArray, List.set_cons_zero, List.set_cons_succ, i64_w, i32_w, hwm]
        rfl
      refine pure_ (i := 6) (N := some 28) (v := ?_) (a' := ?_) #[true, false, true, false, true, false, true, false, false, false, false, false, false, false] rfl rfl (any_of HT_.out (by kernel_rfl)) (fun _ _ _ h => h) (Or.inl ⟨by rfl, ?_⟩) ?_ ?_
      rotate_left
      · intro w'
        go_simp
        with_reducible rfl
      rotate_left
      · simp only [Act.put, List.setIfInBounds_toArray, List.set_cons_zero, List.set_cons_succ, i64_w, i32_w, hwm]
        rfl
      refine take_ (i := 1) (N := some 23) (v := ?_) (a' := ?_) #[true, true, true, false, true, false, true, false, false, false, false, false, false, false] rfl rfl (take_ofW HT_.out HW_.out (by kernel_rfl)) (fun _ _ _ h => h) (Or.inl ⟨by rfl, ?_⟩) hHeld ?_ ?_
      rotate_left
      · rintro w' ⟨s0, s1, s2⟩
        go_simp
        with_reducible rfl
      rotate_left
      · simp only [Act.put, List.setIfInBounds_toArray, List.set_cons_zero, List.set_cons_succ, i64_w, i32_w, hwm]
        rfl
      refine take_ (i := 5) (N := some 27) (v := ?_) (a' := ?_) #[true, true, true, false, true, true, true, false, false, false, false, false, false, false] rfl rfl (take_ofW HT_.out HW_.out (by kernel_rfl)) (fun _ _ _ h => h) (Or.inl ⟨by rfl, ?_⟩) hHeld ?_ ?_
      rotate_left
      · rintro w' ⟨s0, s1, s2⟩
        go_simp
        with_reducible rfl
      rotate_left
      · simp only [Act.put, List.setIfInBounds_toArray, List.set_cons_zero, List.set_cons_succ, i64_w, i32_w, hwm]
        rfl
      refine take_ (i := 7) (N := some 29) (v := ?_) (a' := ?_) #[true, true, true, false, true, true, true, true, false, false, false, false, false, false] rfl rfl (take_ofW HT_.out HW_.out (by kernel_rfl)) (fun _ _ _ h => h) (Or.inl ⟨by rfl, ?_⟩) hHeld ?_ ?_
      rotate_left
      · rintro w' ⟨s0, s1, s2⟩
        go_simp
        with_reducible rfl
      rotate_left
      · simp only [Act.put, List.setIfInBounds_toArray, List.set_cons_zero, List.set_cons_succ, i64_w, i32_w, hwm]
        rfl
      refine pure_ (i := 8) (N := some 30) (v := ?_) (a' := ?_) #[true, true, true, false, true, true, true, true, true, false, false, false, false, false] rfl rfl (any_of HT_.out (by kernel_rfl)) (fun _ _ _ h => h) (Or.inl ⟨by rfl, ?_⟩) ?_ ?_
      rotate_left
      · intro w'
        go_simp
        with_reducible rfl
      rotate_left
      · simp only [Act.put, List.setIfInBounds_toArray, List.set_cons_zero, List.set_cons_succ, i64_w, i32_w, hwm]
        rfl
      refine one_ (i := 3) (N := some 25) #[true, true, true, true, true, true, true, true, true, false, false, false, false, false] rfl rfl (one_of HT_.out (by kernel_rfl)) (by decide) (fun K hK => ?_)
      refine value_ (w1 := ?_) (v := ?_) (by rfl) rfl ?_ ?_
      rotate_left 2
      · go_simp
        constructor
        · rfl
        · rfl
      refine hK.out _ _ ⟨(blk_cell (blk_alloc BKg5.out _) 3).trans rfl, (blk_cell (blk_alloc BKg2.out _) 7).trans rfl, (blk_cell (blk_alloc BKg2.out _) 8).trans rfl⟩ (fun hHeld => ?_)
      clear hK K
      refine norm_ (a' := ?_) ?_ ?_
      rotate_left
      · show Act.put _ (some 25) _ = _
        simp only [Act.put, List.setIfInBounds_toArray, List.set_cons_zero, List.set_cons_succ, i64_w, i32_w]
        rfl
      refine one_ (i := 9) (N := some 31) #[true, true, true, true, true, true, true, true, true, true, false, false, false, false] rfl rfl (one_of HT_.out (by kernel_rfl)) (by decide) (fun K hK => ?_)
      refine goes_ Tryz.func260 (by kernel_rfl) rfl #[.slice (some ⟨wd.heap.size, 0, none⟩) 1 1, .int .i64 (x.f7 * x.f8)] (by rfl) rfl rfl (by (try simp only [List.map_toArray, List.map_cons, List.map_nil]); first | done | rfl) ?_
      refine (slices_Repeat_int_int.calls (some ⟨wd.heap.size, 0, none⟩) 1 [v9] (x.f7 * x.f8) _ _ ?s1 (Nat.le_refl _) HRP.out).mono ?_
      (case s1 => exact C_one wd v9)
      rintro e w9 ⟨vr, rfl, hr9, hb9⟩
      refine ⟨_, rfl, ?_⟩
      obtain ⟨Ar, cr, rfl⟩ := Kd.R_slice hr9
      rw [List.length_replicate] at hr9
      rw [List.length_replicate]
      have HR9 := Aside0.mk hr9
      have BKg2a := Aside0.mk (blk_below (blk_alloc BKg2.out _) hb9)
      have BKg4a := Aside0.mk (blk_below (blk_alloc BKg4.out _) hb9)
      have BKg5a := Aside0.mk (blk_below (blk_alloc BKg5.out _) hb9)
      have HBa := Aside0.mk (pw_below_trans (below_alloc HB.out _) hb9)
      have HSa := Aside0.mk (Kd.S_below (Kd.S_alloc HS.out _) hb9)
      have HSb := Aside0.mk (Kd.S_old (Kd.S_alloc HS.out _) hb9)
      obtain ⟨NB, hNB⟩ : ∃ b, b = (wd.alloc (.cells #[.int .i64 v9] 3)).heap.size := ⟨_, rfl⟩
      have hNBw : w.heap.size ≤ NB := (by rw [hNB]; exact (below_alloc HB.out _).size)
      rw [← hNB] at HR9 HSb
      clear hr9 hb9
      refine hK.out _ _ ⟨(blk_cell BKg5a.out 3).trans rfl, (blk_cell BKg2a.out 7).trans rfl, (blk_cell BKg2a.out 8).trans rfl⟩ (fun hHeld => ?_)
      clear hK K
      refine norm_ (a' := ?_) ?_ ?_
      rotate_left
      · show Act.put _ (some 31) _ = _
        simp only [Act.put, List.setIfInBounds_toArray, List.set_cons_zero, List.set_cons_succ, i64_w, i32_w]
        rfl
      refine one_ (i := 10) (N := some 32) #[true, true, true, true, true, true, true, true, true, true, true, false, false, false] rfl rfl (one_of HT_.out (by kernel_rfl)) (by decide) (fun K hK => ?_)
      refine value_ (w1 := ?_) (v := ?_) (by rfl) rfl ?_ ?_
      rotate_left 2
      · go_simp
        constructor
        · rfl
        · rfl
      refine hK.out _ _ ⟨(blk_cell (blk_alloc BKg5a.out _) 3).trans rfl, (blk_cell (blk_alloc BKg2a.out _) 7).trans rfl, (blk_cell (blk_alloc BKg2a.out _) 8).trans rfl⟩ (fun hHeld => ?_)
      clear hK K
      refine norm_ (a' := ?_) ?_ ?_
      rotate_left
      · show Act.put _ (some 32) _ = _
        simp only [Act.put, List.setIfInBounds_toArray, List.set_cons_zero, List.set_cons_succ, i64_w, i32_w]
        rfl
      refine one_ (i := 11) (N := some 33) #[true, true, true, true, true, true, true, true, true, true, true, true, false, false] rfl rfl (one_of HT_.out (by kernel_rfl)) (by decide) (fun K hK => ?_)
      refine Kd.S_append_step (Kd.slice 3 (Kd.int .i64)) (w0 := w) w.heap.size (by rfl) (.tmp 23) (.tmp 32) 22 39 (.slice none 0 0) 24 rfl Tryz.underlying22 info39 rfl (by decide) (by omega) (.slice Au pl.length cu) pl (List.replicate (x.f7 * x.f8).toNat v9) [.slice Ar (x.f7 * x.f8).toNat cr] (fun _ => True) (fun k => NB ≤ k) rfl rfl ?aP ?aK (fun _ _ => trivial) ?aO HBa.out HBa.out.size (by have := hpl.out; omega) ?_
      (case aP => exact ⟨_, rfl, Kd.R_lower (Kd.R_mono (Kd.R_bound HR9.out) (fun k hk => by have := hk.2.1; omega)) (by omega)⟩)
      (case aK => intro k hk; exact ⟨trivial, fun he => by have := Kd.S_lt (Kd.S_alloc HS.out (.cells #[.int .i64 v9] 3)) k he.symm; omega⟩)
      (case aO => exact Kd.S_mono HSb.out (fun k hk => ⟨trivial, by have := hk.2; omega⟩))
      intro v1 w1 hs1 hb1 hg1 _
      have HB1 := Aside0.mk hb1
      have BKg2b := Aside0.mk (blk_grown BKg2a.out hg1 (Kd.S_ne HSa.out BKg2a.out (by decide)))
      have BKg4b := Aside0.mk (blk_grown BKg4a.out hg1 (Kd.S_ne HSa.out BKg4a.out (by decide)))
      have BKg5b := Aside0.mk (blk_grown BKg5a.out hg1 (Kd.S_ne HSa.out BKg5a.out (by decide)))
      obtain ⟨A1_, c1_, rfl⟩ := Kd.S_slice hs1
      rw [List.length_append, List.length_singleton] at hs1
      have HS1 := Aside0.mk hs1
      rw [List.length_append, List.length_singleton]
      clear hs1 hb1 hg1
      refine hK.out _ _ ⟨(blk_cell BKg5b.out 3).trans rfl, (blk_cell BKg2b.out 7).trans rfl, (blk_cell BKg2b.out 8).trans rfl⟩ (fun hHeld => ?_)
      clear hK K
      refine norm_ (a' := ?_) ?_ ?_
      rotate_left
      · show Act.put _ (some 33) _ = _
        simp only [Act.put, List.setIfInBounds_toArray, List.set_cons_zero, List.set_cons_succ, i64_w, i32_w]
        rfl
      refine pure_ (i := 12) (N := some 34) (v := ?_) (a' := ?_) #[true, true, true, true, true, true, true, true, true, true, true, true, true, false] rfl rfl (any_of HT_.out (by kernel_rfl)) (fun _ _ _ h => h) (Or.inl ⟨by rfl, ?_⟩) ?_ ?_
      rotate_left
      · intro w'
        go_simp
        with_reducible rfl
      rotate_left
      · simp only [Act.put, List.setIfInBounds_toArray, List.set_cons_zero, List.set_cons_succ, i64_w, i32_w, hwm]
        rfl
      refine last_ (i := 13) (N := none) #[true, true, true, true, true, true, true, true, true, true, true, true, true, true] rfl rfl (one_of HT_.out (by kernel_rfl)) (by decide) (fun K hK => ?_)
      have k9 : w1.cell? ⟨g5, 3, none⟩ = some (.slice Au pl.length cu) := (blk_cell BKg5b.out 3).trans rfl
      have f9 := blk_frozen BKg5b.out 3
      refine skip_ (w1 := ?_) (by rfl) rfl ?_ ?_
      rotate_left
      · go_simp
        rfl
      refine hK.out _ _ ?_
      clear hK K
      refine done_ (done_of HT_.out (by kernel_rfl)) ?_
      go_wp2
      go_roundg kq1
      case measure => omega
      case rel => exact ⟨i + 1, _, congrArg _ hw.out.1, ⟨by have := HI.out; omega, by have := HI.out; omega⟩, ⟨by rw [hw.out.2, HTK.out]; exact Kd.S_set HS1.out BKg5b.out (by decide) 3 _⟩, ⟨blk_far BKg2b.out (ne_types BKg2b.out BKg5b.out (by decide)) _⟩, ⟨blk_far BKg4b.out NE45.out _⟩, ⟨blk_put BKg5b.out 3 _ rfl⟩, ⟨below_set HB1.out GE5.out⟩⟩
end Go.Proofs.YtphkionjjhhhlaaGreat.Q
end
section
namespace Go.Proofs.YtphkionjjhhhlaaGreat.Q
open Go.RowKit Go.Proofs.YtphkionjjhhhlaaGreatW.PrintWords Go.Proofs.YtphkionjjhhhlaaGreatW.PrintLast Go.Proofs.YtphkionjjhhhlaaGreatW.PrintMore
theorem enters_324 : ∀ (args : Array Value) (W : World), (callFunc 324 args).run Tryz.prog W = .ok (.enter 324 args) W := enters_of Tryz.func324 (by kernel_rfl) rfl
set_option maxHeartbeats 8000000 in
set_option maxRecDepth 100000 in
theorem pred_324 (a b n : Int) (gb : Nat) (w : World) (hb : w.heap[gb]? = some (.cells #[.int .i64 a, .int .i64 b, .int .i64 8, .int .i64 n] 104 (0, 0))) : PredIn Tryz.prog 324 #[.pointer (some ⟨gb, 0, none⟩)] (fun _ (x : Int) v => v = .int .i64 x) (fun id => decide (256 ≤ id)) w := ⟨enters_324, fun W x v hW he => by
  subst he
  have hu104 := Tryz.underlying104
  have k2 : W.cell? ⟨gb, 2, none⟩ = some (.int .i64 8) := (blk_cell ((hW.block gb (blk_lt hb)).trans hb) 2).trans rfl
  clear hb hW
  simp only [List.append_toArray, List.cons_append, List.nil_append]
  go_enter Tryz.func324, Tryz.ntmps324
  go_wp2
  go_ret
  exact ⟨rfl, Below.refl _ _⟩⟩
set_option maxHeartbeats 16000000 in
set_option maxRecDepth 100000 in
theorem shape_canvas (x : S68) (A2 : Option Addr) (c2 : Nat) (A3 : Option Addr) (c3 : Nat) (A4 : Option Addr) (c4 : Nat) (A9 : Option Addr) (c9 : Nat) (A1 : Option Addr) (c1 : Nat) (w : World) (hr9 : Kd.C (Kd.int .i64) w A9 x.f9.length x.f9) (hx : (x.f9.any fun v => decide (256 ≤ v)) = false) :
    Calls Tryz.prog 323 #[.agg #[.int .i64 x.f0, .int .i64 x.f1, .slice A2 x.f2.length c2, .slice A3 x.f3.length c3, .slice A4 x.f4.length c4, .int .i64 x.f5, .int .i64 x.f6, .int .i64 x.f7, .int .i64 x.f8, .slice A9 x.f9.length c9, .int .i64 x.f10, .bool x.f11], .slice A1 0 c1] w fun e w' => e = .returned (.tuple #[.agg #[.int .i64 x.f7, .int .i64 x.f8, .int .i64 8, .int .i64 (x.f9.length : Int)], .int .i64 0]) ∧ Below w.heap.size w w' := by
  have HX := Aside0.mk hx
  have HR := Aside0.mk hr9
  clear hx hr9
  have hu104 := Tryz.underlying104
  have hu157 := Tryz.underlying157
  have hmf := makeFunc_run
  go_enter Tryz.func323, Tryz.ntmps323
  go_wp2_with (first | ((with_reducible refine gate_dst (N := 2) rfl ?_); refine box_event ?hg (N := 2) ?hd (cs := #[.int .i64 x.f0, .int .i64 x.f1, .slice A2 x.f2.length c2, .slice A3 x.f3.length c3, .slice A4 x.f4.length c4, .int .i64 x.f5, .int .i64 x.f6, .int .i64 x.f7, .int .i64 x.f8, .slice A9 x.f9.length c9, .int .i64 x.f10, .bool x.f11]) (t := 157) ?hr ?_; (case hd => rfl); (case hg => rfl); (case hr => first | (go_simp; done) | (go_simp; rfl)); intro g2 hgg2 w2 hboxg2 hbg2; have BKg2 := Aside0.mk hboxg2; have HB2 := Aside0.mk hbg2; clear hboxg2 hbg2 hgg2) | ((with_reducible refine gate_dst (N := 4) rfl ?_); refine box_event ?hg (N := 4) ?hd (cs := #[.int .i64 0, .int .i64 0, .int .i64 0, .int .i64 0]) (t := 104) ?hr ?_; (case hd => rfl); (case hg => rfl); (case hr => first | (go_simp; done) | (go_simp; rfl)); intro g4 hgg4 w3 hboxg4 hbg4; have BKg4 := Aside0.mk hboxg4; have GE4 : Aside0 (w.heap.size ≤ g4) := ⟨by have := HB2.out.size; omega⟩; have HB3 := Aside0.mk (pw_below_trans HB2.out hbg4); replace BKg2 := Aside0.mk (blk_below BKg2.out hbg4); have k7 : w3.cell? ⟨g2, 7, none⟩ = some (.int .i64 x.f7) := (blk_cell BKg2.out 7).trans rfl; have k8 : w3.cell? ⟨g2, 8, none⟩ = some (.int .i64 x.f8) := (blk_cell BKg2.out 8).trans rfl; have k9 : w3.cell? ⟨g2, 9, none⟩ = some (.slice A9 x.f9.length c9) := (blk_cell BKg2.out 9).trans rfl; clear hboxg4 hbg4 hgg4) | ((with_reducible refine gate_dst (N := 6) rfl ?_); refine box_event ?hg (N := 6) ?hd (cs := #[.int .i64 0, .int .i64 0, .int .i64 0, .int .i64 0]) (t := 104) ?hr ?_; (case hd => rfl); (case hg => rfl); (case hr => first | (go_simp; done) | (go_simp; rfl)); intro g6 hgg6 w4 hboxg6 hbg6; have BKg6 := Aside0.mk hboxg6; have GE6 : Aside0 (w.heap.size ≤ g6) := ⟨by have := HB3.out.size; omega⟩; have NE46 : Aside0 (g4 ≠ g6) := ⟨by have := blk_lt BKg4.out; omega⟩; have NE26 : Aside0 (g2 ≠ g6) := ⟨by have := blk_lt BKg2.out; omega⟩; replace BKg4 := Aside0.mk (blk_below BKg4.out hbg6); replace BKg2 := Aside0.mk (blk_below BKg2.out hbg6); have HB4 := Aside0.mk (pw_below_trans HB3.out hbg6); clear k7 k8 k9; have z0 : w4.cell? ⟨g6, 0, none⟩ = some (.int .i64 0) := (blk_cell BKg6.out 0).trans rfl; have z1 : w4.cell? ⟨g6, 1, none⟩ = some (.int .i64 0) := (blk_cell BKg6.out 1).trans rfl; have z2 : w4.cell? ⟨g6, 2, none⟩ = some (.int .i64 0) := (blk_cell BKg6.out 2).trans rfl; have z3 : w4.cell? ⟨g6, 3, none⟩ = some (.int .i64 0) := (blk_cell BKg6.out 3).trans rfl; have fz0 := blk_frozen BKg6.out 0; have fz1 := blk_frozen BKg6.out 1; have fz2 := blk_frozen BKg6.out 2; have fz3 := blk_frozen BKg6.out 3; clear hboxg6 hbg6 hgg6))
  clear z0 z1 z2 z3 fz0 fz1 fz2 fz3
  go_loopg [19] 0 (fun kq v19 w' => v19 = .int .i64 0 ∧ Aside0 (w'.heap[g2]? = some (.cells #[.int .i64 x.f0, .int .i64 x.f1, .slice A2 x.f2.length c2, .slice A3 x.f3.length c3, .slice A4 x.f4.length c4, .int .i64 x.f5, .int .i64 x.f6, .int .i64 x.f7, .int .i64 x.f8, .slice A9 x.f9.length c9, .int .i64 x.f10, .bool x.f11] 157 (0, 0))) ∧ Aside0 (w'.heap[g4]? = some (.cells #[.int .i64 0, .int .i64 0, .int .i64 0, .int .i64 0] 104 (0, 0))) ∧ Aside0 (w'.heap[g6]? = some (.cells #[.int .i64 x.f7, .int .i64 x.f8, .int .i64 8, .int .i64 (x.f9.length : Int)] 104 (0, 0))) ∧ Aside0 (Below w.heap.size w w'))
  case atStart => exact ⟨rfl, ⟨four_far BKg2.out NE26.out _ _ _ _⟩, ⟨four_far BKg4.out NE46.out _ _ _ _⟩, ⟨four_put BKg6.out _ _ _ _⟩, ⟨four_below HB4.out GE6.out _ _ _ _⟩⟩
  case round =>
    clear BKg2 BKg4 BKg6 HB4 HB3 HB2
    obtain ⟨rfl, BKg2, BKg4, BKg6, HB⟩ := hrel
    have k9 : wr.cell? ⟨g2, 9, none⟩ = some (.slice A9 x.f9.length c9) := (blk_cell BKg2.out 9).trans rfl
    go_wp2_with (go_at_call 56; (with_reducible refine (ContainsFunc_int.calls 324 #[.pointer (some ⟨g6, 0, none⟩)] (fun id => decide (256 ≤ id)) A9 c9 x.f9 _ (Kd.C_below HR.out HB.out) (pred_324 _ _ _ g6 _ BKg6.out)).mono ?_); rintro e w6 ⟨rfl, hb⟩; rw [HX.out]; have BKg4a := Aside0.mk (blk_below BKg4.out hb); have BKg6a := Aside0.mk (blk_below BKg6.out hb); have HB6 := Aside0.mk (pw_below_trans HB.out hb); clear hb; have k0 : w6.cell? ⟨g6, 0, none⟩ = some (.int .i64 x.f7) := (blk_cell BKg6a.out 0).trans rfl; have k1 : w6.cell? ⟨g6, 1, none⟩ = some (.int .i64 x.f8) := (blk_cell BKg6a.out 1).trans rfl; have k2 : w6.cell? ⟨g6, 2, none⟩ = some (.int .i64 8) := (blk_cell BKg6a.out 2).trans rfl; have k3 : w6.cell? ⟨g6, 3, none⟩ = some (.int .i64 (x.f9.length : Int)) := (blk_cell BKg6a.out 3).trans rfl; have z0 : w6.cell? ⟨g4, 0, none⟩ = some (.int .i64 0) := (blk_cell BKg4a.out 0).trans rfl; have z1 : w6.cell? ⟨g4, 1, none⟩ = some (.int .i64 0) := (blk_cell BKg4a.out 1).trans rfl; have z2 : w6.cell? ⟨g4, 2, none⟩ = some (.int .i64 0) := (blk_cell BKg4a.out 2).trans rfl; have z3 : w6.cell? ⟨g4, 3, none⟩ = some (.int .i64 0) := (blk_cell BKg4a.out 3).trans rfl; have fz0 := blk_frozen BKg4a.out 0; have fz1 := blk_frozen BKg4a.out 1; have fz2 := blk_frozen BKg4a.out 2; have fz3 := blk_frozen BKg4a.out 3)
    go_wp2
    refine bodyPost_ret (results_ct rfl _ _ g4 104 #[.int .i64 x.f7, .int .i64 x.f8, .int .i64 8, .int .i64 (x.f9.length : Int)] (0, 0) _ rfl (four_put BKg4a.out _ _ _ _) Tryz.underlying104 rfl (by kernel_rfl)) rfl ?_
    exact ⟨rfl, four_below HB6.out GE4.out _ _ _ _⟩
end Go.Proofs.YtphkionjjhhhlaaGreat.Q
end
section
namespace Go.Proofs.YtphkionjjhhhlaaGreat.Q
open Go.RowKit Go.Proofs.YtphkionjjhhhlaaGreatW.PrintWords Go.Proofs.YtphkionjjhhhlaaGreatW.PrintLast Go.Proofs.YtphkionjjhhhlaaGreatW.PrintMore
theorem info24' : (Tryz.prog.info? 24).map (fun i => (i.zero, i.size, i.bytes)) = some (some (.agg #[.int .i64 0, .int .i64 0, .int .i64 0, .slice none 0 0]), 4, 48) := by kernel_rfl
def Row4 (w : World) (g : Nat) (a b c d : Value) : Prop := ∃ cur : Array Value, w.heap[g]? = some (.cells cur 24 (0, 0)) ∧ cur[0]? = some a ∧ cur[1]? = some b ∧ cur[2]? = some c ∧ cur[3]? = some d
theorem Row4.of {w : World} {base : Nat} {v : Value} {a b c d : Value} (h : (Kd.raw 4).R 24 w base (fun _ => True) v (List.replicate (1 : Int).toNat [a, b, c, d])) : ∃ g cap, v = .slice (some ⟨g, 0, none⟩) 1 cap ∧ base ≤ g ∧ Row4 w g a b c d := by
  obtain ⟨_, inner, ho, hr⟩ := h
  have h0 := (hr.2 0 _ rfl).1
  rcases ho.2 with ⟨_, h1⟩ | ⟨g, cap, cur, hv, hb, hh, hn, hm, hs, ht⟩
  · cases h1
  · refine ⟨g, cap, hv, hb, cur, hh, ?_⟩
    have hsz : (List.replicate (1 : Int).toNat [a, b, c, d]).length * (Kd.raw 4).sz = 4 := rfl
    rw [hsz] at ht
    have hz : inner.take 4 = [a, b, c, d] := by simpa [Kd.raw] using h0
    rw [← ht, List.take_take] at hz
    simp only [Nat.min_self] at hz
    have k : ∀ j, j < 4 → cur[j]? = [a, b, c, d][j]? := fun j hj => by
      rw [← hz, List.getElem?_take, if_pos hj, Array.getElem?_toList]
    exact ⟨k 0 (by decide), k 1 (by decide), k 2 (by decide), k 3 (by decide)⟩
theorem Row4.below {w w1 : World} {g : Nat} {a b c d : Value} (h : Row4 w g a b c d) (hb : Below w.heap.size w w1) : Row4 w1 g a b c d := by
  obtain ⟨cur, h0, h1⟩ := h
  exact ⟨cur, blk_below h0 hb, h1⟩
theorem Row4.cell {w : World} {g : Nat} {a b c d : Value} (h : Row4 w g a b c d) : w.cell? ⟨g, 0, none⟩ = some a ∧ w.cell? ⟨g, 1, none⟩ = some b ∧ w.cell? ⟨g, 2, none⟩ = some c ∧ w.cell? ⟨g, 3, none⟩ = some d ∧ w.frozen? ⟨g, 0, none⟩ = false ∧ w.frozen? ⟨g, 1, none⟩ = false ∧ w.frozen? ⟨g, 2, none⟩ = false ∧ w.frozen? ⟨g, 3, none⟩ = false := by
  obtain ⟨cur, h0, h1, h2, h3, h4⟩ := h
  exact ⟨(blk_cell h0 0).trans h1, (blk_cell h0 1).trans h2, (blk_cell h0 2).trans h3, (blk_cell h0 3).trans h4, blk_frozen h0 0, blk_frozen h0 1, blk_frozen h0 2, blk_frozen h0 3⟩
theorem Row4.put {w : World} {g : Nat} {a b c d : Value} (h : Row4 w g a b c d) (v0 v1 v2 v3 : Value) : Row4 ((((w.setCell ⟨g, 0, none⟩ v0).setCell ⟨g, 1, none⟩ v1).setCell ⟨g, 2, none⟩ v2).setCell ⟨g, 3, none⟩ v3) g v0 v1 v2 v3 := by
  obtain ⟨cur, h0, h1, h2, h3, h4⟩ := h
  have l0 := (Array.getElem?_eq_some_iff.1 h1).1
  have l1 := (Array.getElem?_eq_some_iff.1 h2).1
  have l2 := (Array.getElem?_eq_some_iff.1 h3).1
  have l3 := (Array.getElem?_eq_some_iff.1 h4).1
  refine ⟨_, blk_put (blk_put (blk_put (blk_put h0 0 v0 rfl) 1 v1 rfl) 2 v2 rfl) 3 v3 rfl, ?_, ?_, ?_, ?_⟩ <;> simp [Array.getElem?_setIfInBounds, l0, l1, l2, l3]
def canX : S68 := ⟨4, 2, [], [], [], 0, 0, 2, 1, [9], 0, false⟩
theorem Row4.S {α : Type} {d : Kd α} {e base : Nat} {w : World} {ok : Nat → Prop} {v : Value} {xs : List α} {g : Nat} {a b c dd : Value} (h : Kd.S d e w base ok v xs) (hb : Row4 w g a b c dd) (ht : ∀ q, q ∈ e :: d.E → q ≠ 24) (v0 v1 v2 v3 : Value) :
    Kd.S d e ((((w.setCell ⟨g, 0, none⟩ v0).setCell ⟨g, 1, none⟩ v1).setCell ⟨g, 2, none⟩ v2).setCell ⟨g, 3, none⟩ v3) base ok v xs := by
  obtain ⟨cur, h0, _⟩ := hb
  exact Kd.S_set (Kd.S_set (Kd.S_set (Kd.S_set h h0 ht 0 v0) (blk_put h0 0 v0 rfl) ht 1 v1) (blk_put (blk_put h0 0 v0 rfl) 1 v1 rfl) ht 2 v2) (blk_put (blk_put (blk_put h0 0 v0 rfl) 1 v1 rfl) 2 v2 rfl) ht 3 v3
theorem ta_over (x : Value) (w : World) : (Instr.typeAssert (.iface 157 x) 117 120 true).run Tryz.prog w = .ok (.tuple #[.agg #[.int .i64 0, .int .i64 0, .slice none 0 0, .slice none 0 0, .slice none 0 0, .int .i64 0, .int .i64 0, .int .i64 0, .int .i64 0, .slice none 0 0, .int .i64 0, .bool false], .bool false]) w := by kernel_rfl
theorem met_shape (x : Value) (w : World) : (method 455 157 x "diorama/item.shape").run Tryz.prog w = .ok (323, x) w := by kernel_rfl
theorem met_draw (x : Value) (w : World) : (method 455 157 x "diorama/item.draw").run Tryz.prog w = .ok (322, x) w := by kernel_rfl
theorem enters_323 : ∀ (args : Array Value) (W : World), (callFunc 323 args).run Tryz.prog W = .ok (.enter 323 args) W := enters_of Tryz.func323 (by kernel_rfl) rfl
theorem enters_322 : ∀ (args : Array Value) (W : World), (callFunc 322 args).run Tryz.prog W = .ok (.enter 322 args) W := enters_of Tryz.func322 (by kernel_rfl) rfl
theorem canReady : item_ready.f [canX] 4 = some (0, 0) := by decide +kernel
theorem canOrder : item_order.f [canX] 0 = some [0] := by decide +kernel
theorem canTurned : item_turned.f 2 1 8 [[9, 9]] 0 false = some (2, 1, 8, [[9, 9]]) := by decide +kernel
def render_walk.T26 : Bool × List (List Nat × List Nat) := (true, [([], []), ([], []), ([], []), ([], []), ([2, 3], [2, 3]), ([], []), ([5], [5]), ([], []), ([7], [7]), ([4, 6, 8, 4], [4, 6, 8]), ([0, 1, 0, 1, 2, 3, 4, 5, 6, 7, 8, 9], [0, 1]), ([10, 9, 9, 0, 1, 2, 3, 4, 5, 6, 7, 8, 9], [9, 10])])
def render_walk.B26 : List Nat := [0, 0, 0, 0, 12, 0, 32, 0, 128, 508, 1023, 2047]
theorem render_walk.tab26 : rtab .any (opsOf Tryz.f32 26) = render_walk.T26 := by kernel_rfl
theorem render_walk.bits26 : waitsOk render_walk.T26.2 render_walk.B26 = true := by kernel_rfl
set_option maxHeartbeats 16000000 in
set_option maxRecDepth 100000 in
theorem render_canvas (A0 : Option Addr) (c0 : Nat) (w : World) (hr0 : Kd.C k68 w A0 [canX].length [canX]) (hc0 : [canX].length ≤ c0) :
    Calls Tryz.prog 32 #[.slice A0 1 c0, .int .i64 4] w fun e w' => ∃ v3_ : Value, e = .returned (.tuple #[.agg #[.int .i64 2, .int .i64 1, .int .i64 8, v3_], .int .i64 0]) ∧ Kd.S (Kd.slice 3 (Kd.int .i64)) 39 w' w.heap.size (fun _ => True) v3_ [[9, 9]] ∧ Below w.heap.size w w' := by
  have HR := Aside0.mk hr0
  have HC := Aside0.mk hc0
  clear hr0 hc0
  have hu24 := Tryz.underlying24
  have hu68 := Tryz.underlying68
  have hu104 := Tryz.underlying104
  go_enter Tryz.func32, Tryz.ntmps32
  go_wp2_with (first | ((with_reducible refine gate_dst (N := 4) rfl ?_); refine box_event ?hg (N := 4) ?hd (cs := #[.int .i64 0, .int .i64 0, .int .i64 0, .slice none 0 0]) (t := 24) ?hr ?_; (case hd => rfl); (case hg => rfl); (case hr => first | (go_simp; done) | (go_simp; rfl)); intro g4 hgg4 w1 hboxg4 hbg4; have BKg4 := Aside0.mk hboxg4; have GE4 : Aside0 (w.heap.size ≤ g4) := ⟨by omega⟩; have HB1 := Aside0.mk hbg4; clear hboxg4 hbg4 hgg4) | (go_at_call 63; (refine (item_ready.calls A0 c0 [canX] 4 0 0 _ (Kd.C_below HR.out HB1.out) HC.out canReady).mono ?_); rintro e w2 ⟨rfl, hb⟩; have HB2 := Aside0.mk (pw_below_trans HB1.out hb); replace BKg4 := Aside0.mk (blk_below BKg4.out hb); clear hb) | ((with_reducible refine gate_dst (N := 33) rfl ?_); refine Kd.R_make (Kd.raw 4) (w0 := w) w.heap.size 24 rfl (N := 33) rfl 49 _ _ rfl (1 : Int) rfl rfl Tryz.underlying49 (.agg #[.int .i64 0, .int .i64 0, .int .i64 0, .slice none 0 0]) 48 info24' rfl (by decide) (by decide) [.int .i64 0, .int .i64 0, .int .i64 0, .slice none 0 0] (ok := fun _ => True) (okp := fun _ => True) ⟨rfl, rfl, by decide⟩ (fun _ hk => hk) trivial (by decide) (by decide) HB2.out HB2.out.size ?_; intro v3 w3 hv3 hb3 hg3 hat; obtain ⟨gh, ch, rfl, hgh, hr4⟩ := Row4.of hv3; have NE4 : Aside0 (g4 ≠ gh) := ⟨by obtain ⟨b, hb1, hb2⟩ := hat; simp [Value.ownBlock] at hb1; have := blk_lt BKg4.out; omega⟩; have HRW := Aside0.mk hr4; have GEH : Aside0 (w.heap.size ≤ gh) := ⟨hgh⟩; have HB3 := Aside0.mk hb3; replace BKg4 := Aside0.mk (blk_grown BKg4.out hg3 (by simp)); clear hv3 hb3 hg3 hr4 hgh hat) | (go_at_call 64; (refine (item_order.calls A0 c0 [canX] 0 [0] _ (Kd.C_below HR.out HB3.out) HC.out canOrder).mono ?_); rintro e w5 ⟨vo, rfl, hvo, hb⟩; obtain ⟨Ao, co, rfl, _, hco⟩ := Kd.R_reads hvo; have HCO := Aside0.mk hco; have HB5 := Aside0.mk (pw_below_trans HB3.out hb); replace BKg4 := Aside0.mk (blk_below BKg4.out hb); replace HRW := Aside0.mk (HRW.out.below hb); clear hvo hb hco))
  go_loopg [38] 1 (fun kq v38 w' => ∃ (i : Int), v38 = .int .i64 i ∧ Aside0 (0 ≤ i ∧ i + kq = 1) ∧ Aside0 (Below w.heap.size w w') ∧ Aside0 (Below w5.heap.size w5 w' ∨ True) ∧ Aside0 (w'.heap[g4]? = some (.cells #[.int .i64 0, .int .i64 0, .int .i64 0, .slice none 0 0] 24 (0, 0))) ∧ Aside0 (kq = 1 → w' = w5) ∧ Aside0 (kq = 0 → ∃ v3 : Value, Row4 w' gh (.int .i64 2) (.int .i64 1) (.int .i64 8) v3 ∧ Kd.S (Kd.slice 3 (Kd.int .i64)) 39 w' w.heap.size (fun _ => True) v3 [[9, 9]]))
  case atStart => exact ⟨0, rfl, ⟨by omega, by omega⟩, HB5, ⟨.inr trivial⟩, BKg4, ⟨fun _ => rfl⟩, ⟨fun h => by omega⟩⟩
  case round =>
    obtain ⟨i, rfl, HI, HB, _, BKg4, HS1, HS0⟩ := hrel
    cases gk with
    | zero =>
      have hge : decide (i < 1) = false := by have := HI.out; simp; omega
      obtain ⟨v3, hrw, hs⟩ := HS0.out rfl
      obtain ⟨A3_, c3_, rfl⟩ := Kd.S_slice hs
      obtain ⟨q0, q1, q2, q3, _⟩ := hrw.cell
      have HS := Aside0.mk hs
      clear hs hrw HS0 HS1
      have z0 : wr.cell? ⟨g4, 0, none⟩ = some (.int .i64 0) := (blk_cell BKg4.out 0).trans rfl; have z1 : wr.cell? ⟨g4, 1, none⟩ = some (.int .i64 0) := (blk_cell BKg4.out 1).trans rfl; have z2 : wr.cell? ⟨g4, 2, none⟩ = some (.int .i64 0) := (blk_cell BKg4.out 2).trans rfl; have z3 : wr.cell? ⟨g4, 3, none⟩ = some (.slice none 0 0) := (blk_cell BKg4.out 3).trans rfl
      have fz0 := blk_frozen BKg4.out 0; have fz1 := blk_frozen BKg4.out 1; have fz2 := blk_frozen BKg4.out 2; have fz3 := blk_frozen BKg4.out 3
      go_wp2
      refine bodyPost_ret (results_ct rfl _ _ g4 24 #[.int .i64 2, .int .i64 1, .int .i64 8, .slice A3_ [[9, 9]].length c3_] (0, 0) _ rfl (four_put BKg4.out _ _ _ _) Tryz.underlying24 rfl (by kernel_rfl)) rfl ?_
      exact ⟨_, rfl, four_S HS.out BKg4.out (by decide) _ _ _ _, four_below HB.out GE4.out _ _ _ _⟩
    | succ kq1 =>
      have hk1 : kq1 = 0 := by have := HI.out; omega
      subst hk1
      have hi : i = 0 := by have := HI.out; omega
      subst hi
      have hwr := HS1.out rfl
      subst hwr
      clear HS1 HS0 HI
      obtain ⟨ado, e1, hco⟩ := ReadsInt.at_ (Kd.reads_of_C (d := 0) HCO.out : ReadsInt _ .i64 Ao 1 [0]) 0 (by decide) (by decide)
      cases e1
      obtain ⟨ad, A2, c2, A3, c3, A4, c4, A9, c9, e0, hx0, hx1, hx2, hx3, hx4, hx5, hx6, hx7, hx8, hx9, hx10, hx11, g1, g2, g3, g4_, g5, g6, g7, g8⟩ := at_T68 (Kd.C_below HR.out HB.out) 0 (by decide) (by decide)
      cases e0
      have HX := Aside0.mk g8
      have e12 : ad.add ((0 : Int).toNat * 12) = ad := Addr.add_zero' ad
      rw [e12] at hx0 hx1 hx2 hx3 hx4 hx5 hx6 hx7 hx8 hx9 hx10 hx11
      have e13 : ado.add (Int.toNat 0) = ado := Addr.add_zero' ado
      rw [e13] at hco
      clear e12 e13
      change _ = some (Value.int .i64 0) at hco
      clear g1 g2 g3 g4_ g5 g6 g7 g8
      change _ = some (Value.int .i64 4) at hx0
      change _ = some (Value.int .i64 2) at hx1
      change _ = some (Value.slice A2 0 c2) at hx2
      change _ = some (Value.slice A3 0 c3) at hx3
      change _ = some (Value.slice A4 0 c4) at hx4
      change _ = some (Value.int .i64 0) at hx5
      change _ = some (Value.int .i64 0) at hx6
      change _ = some (Value.int .i64 2) at hx7
      change _ = some (Value.int .i64 1) at hx8
      change _ = some (Value.slice A9 1 c9) at hx9
      change _ = some (Value.int .i64 0) at hx10
      change _ = some (Value.bool false) at hx11
      obtain ⟨wz, hwz⟩ : ∃ z, z = wr := ⟨_, rfl⟩
      subst hwz
      go_wp2
      go_loopg [12, 13, 49] 0 (fun kq v12 v13 v49 w' => v12 = .slice none 0 0 ∧ v13 = .slice none 0 0 ∧ v49 = .int .i64 0 ∧ w' = wz.alloc (.cells #[.int .i64 4, .int .i64 2, .slice A2 0 c2, .slice A3 0 c3, .slice A4 0 c4, .int .i64 0, .int .i64 0, .int .i64 2, .int .i64 1, .slice A9 1 c9, .int .i64 0, .bool false] 68))
      case atStart => exact ⟨rfl, rfl, rfl, rfl⟩
      case round =>
        obtain ⟨rfl, rfl, rfl, hwr⟩ := hrel
        subst hwr
        have hin1 := met_shape
        have hin3 := enters_323
        have hta := ta_over
        have hin2 := met_draw
        have hin4 := enters_322
        go_wp2_with (first | (go_at_call 79; (refine (made_over canX rfl A2 c2 A3 c3 A4 c4 A9 c9 _).mono ?_); rintro e w6 ⟨rfl, hb⟩; have BK6 := Aside0.mk (blk_below (heap_alloc_new wz (.cells #[.int .i64 4, .int .i64 2, .slice A2 0 c2, .slice A3 0 c3, .slice A4 0 c4, .int .i64 0, .int .i64 0, .int .i64 2, .int .i64 1, .slice A9 1 c9, .int .i64 0, .bool false] 68)) hb); have HB6 := Aside0.mk (pw_below_trans (below_alloc (Below.refl _ _) _) hb); clear hb) | (go_at_call 323; (refine (shape_canvas canX A2 c2 A3 c3 A4 c4 A9 c9 none 0 _ (Kd.C_below HX.out HB6.out) (by decide)).mono ?_); rintro e w7 ⟨rfl, hb⟩; have BK7 := Aside0.mk (blk_below BK6.out hb); have HB7 := Aside0.mk (pw_below_trans HB6.out hb); clear hb))
        have BKx := Aside0.mk (blk_drew (blk_alloc BK7.out (.cells #[.int .i64 canX.f7, .int .i64 canX.f8, .int .i64 8, .int .i64 (canX.f9.length : Int)] 104)))
        have HWx := Aside0.mk (below_drew1 (below_alloc HB7.out (.cells #[.int .i64 canX.f7, .int .i64 canX.f8, .int .i64 8, .int .i64 (canX.f9.length : Int)] 104)))
        have HBx := Aside0.mk (pw_below_trans HB.out HWx.out)
        have BKg4x := Aside0.mk (blk_below BKg4.out HWx.out)
        have HRWx := Aside0.mk (HRW.out.below HWx.out)
        have HCx := Aside0.mk (Kd.C_below HX.out HWx.out)
        refine start_ (n := 12) (S := fun w' => w'.cell? ⟨wz.heap.size, 10, none⟩ = some (.int .i64 0) ∧ w'.cell? ⟨wz.heap.size, 11, none⟩ = some (.bool false)) (ds := [11]) #[false, false, false, false, false, false, false, false, false, false, false, false] (by kernel_rfl) rfl rfl ⟨(blk_cell BKx.out 10).trans rfl, (blk_cell BKx.out 11).trans rfl⟩ (fun hHeld => ?_); refine with_tabW render_walk.tab26 render_walk.bits26 (fun HT_ HW_ => ?_)
        generalize ((w7.alloc (.cells #[.int .i64 canX.f7, .int .i64 canX.f8, .int .i64 8, .int .i64 (canX.f9.length : Int)] 104)).drew) = wd at *
        refine pure_ (i := 0) (N := some 89) (v := ?_) (a' := ?_) #[true, false, false, false, false, false, false, false, false, false, false, false] rfl rfl (any_of HT_.out (by kernel_rfl)) (fun _ _ _ h => h) (Or.inl ⟨by rfl, ?_⟩) ?_ ?_
        rotate_left
        · intro w'
          go_simp
          with_reducible rfl
        rotate_left
        · simp only [Act.put, List.setIfInBounds_toArray, List.set_cons_zero, List.set_cons_succ, i64_w, i32_w]
          rfl
        refine pure_ (i := 1) (N := some 90) (v := ?_) (a' := ?_) #[true, true, false, false, false, false, false, false, false, false, false, false] rfl rfl (any_of HT_.out (by kernel_rfl)) (fun _ _ _ h => h) (Or.inl ⟨by rfl, ?_⟩) ?_ ?_
        rotate_left
        · intro w'
          go_simp
          with_reducible rfl
        rotate_left
        · simp only [Act.put, List.setIfInBounds_toArray, List.set_cons_zero, List.set_cons_succ, i64_w, i32_w]
          rfl
        refine pure_ (i := 2) (N := some 91) (v := ?_) (a' := ?_) #[true, true, true, false, false, false, false, false, false, false, false, false] rfl rfl (any_of HT_.out (by kernel_rfl)) (fun _ _ _ h => h) (Or.inl ⟨by rfl, ?_⟩) ?_ ?_
        rotate_left
        · intro w'
          go_simp
          with_reducible rfl
        rotate_left
        · simp only [Act.put, List.setIfInBounds_toArray, List.set_cons_zero, List.set_cons_succ, i64_w, i32_w]
          rfl
        refine pure_ (i := 3) (N := some 92) (v := ?_) (a' := ?_) #[true, true, true, true, false, false, false, false, false, false, false, false] rfl rfl (any_of HT_.out (by kernel_rfl)) (fun _ _ _ h => h) (Or.inl ⟨by rfl, ?_⟩) ?_ ?_
        rotate_left
        · intro w'
          go_simp
          with_reducible rfl
        rotate_left
        · simp only [Act.put, List.setIfInBounds_toArray, List.set_cons_zero, List.set_cons_succ, i64_w, i32_w]
          rfl
        refine pure_ (i := 5) (N := some 94) (v := ?_) (a' := ?_) #[true, true, true, true, false, true, false, false, false, false, false, false] rfl rfl (any_of HT_.out (by kernel_rfl)) (fun _ _ _ h => h) (Or.inl ⟨by rfl, ?_⟩) ?_ ?_
        rotate_left
        · intro w'
          go_simp
          with_reducible rfl
        rotate_left
        · simp only [Act.put, List.setIfInBounds_toArray, List.set_cons_zero, List.set_cons_succ, i64_w, i32_w]
          rfl
        refine pure_ (i := 7) (N := some 96) (v := ?_) (a' := ?_) #[true, true, true, true, false, true, false, true, false, false, false, false] rfl rfl (any_of HT_.out (by kernel_rfl)) (fun _ _ _ h => h) (Or.inl ⟨by rfl, ?_⟩) ?_ ?_
        rotate_left
        · intro w'
          go_simp
          with_reducible rfl
        rotate_left
        · simp only [Act.put, List.setIfInBounds_toArray, List.set_cons_zero, List.set_cons_succ, i64_w, i32_w]
          rfl
        refine take_ (i := 6) (N := some 95) (v := ?_) (a' := ?_) #[true, true, true, true, false, true, true, true, false, false, false, false] rfl rfl (take_ofW HT_.out HW_.out (by kernel_rfl)) (fun _ _ _ h => h) (Or.inl ⟨by rfl, ?_⟩) hHeld ?_ ?_
        rotate_left
        · rintro w' ⟨s0, s1⟩
          go_simp
          with_reducible rfl
        rotate_left
        · simp only [Act.put, List.setIfInBounds_toArray, List.set_cons_zero, List.set_cons_succ, i64_w, i32_w]
          rfl
        refine take_ (i := 8) (N := some 97) (v := ?_) (a' := ?_) #[true, true, true, true, false, true, true, true, true, false, false, false] rfl rfl (take_ofW HT_.out HW_.out (by kernel_rfl)) (fun _ _ _ h => h) (Or.inl ⟨by rfl, ?_⟩) hHeld ?_ ?_
        rotate_left
        · rintro w' ⟨s0, s1⟩
          go_simp
          with_reducible rfl
        rotate_left
        · simp only [Act.put, List.setIfInBounds_toArray, List.set_cons_zero, List.set_cons_succ, i64_w, i32_w]
          rfl
        refine one_ (i := 4) (N := some 93) #[true, true, true, true, true, true, true, true, true, false, false, false] rfl rfl (one_of HT_.out (by kernel_rfl)) (by decide) (fun K hK => ?_)
        refine call_ 322 #[.agg #[.int .i64 canX.f0, .int .i64 canX.f1, .slice A2 canX.f2.length c2, .slice A3 canX.f3.length c3, .slice A4 canX.f4.length c4, .int .i64 canX.f5, .int .i64 canX.f6, .int .i64 canX.f7, .int .i64 canX.f8, .slice A9 canX.f9.length c9, .int .i64 canX.f10, .bool canX.f11], .slice none 0 0] (by rfl) rfl (by go_simp) ?_
        refine (draw_canvas canX A2 c2 A3 c3 A4 c4 A9 c9 none 0 _ HCx.out (by decide)).mono ?_
        rintro e w8 ⟨v8, rfl, hs8, hb8⟩
        refine ⟨_, rfl, ?_⟩
        have hcp : canvasP canX = [[9, 9]] := by decide +kernel
        rw [hcp] at hs8
        obtain ⟨A8, c8, rfl, hl8, hc8⟩ := Kd.S_reads hs8
        have HC8 := Aside0.mk (And.intro hl8 hc8)
        have BK8 := Aside0.mk (blk_below BKx.out hb8)
        have BKg48 := Aside0.mk (blk_below BKg4x.out hb8)
        have HRW8 := Aside0.mk (HRWx.out.below hb8)
        have HB8 := Aside0.mk (pw_below_trans HBx.out hb8)
        clear hs8 hb8 hl8 hc8 hcp
        refine hK.out _ _ ⟨(blk_cell BK8.out 10).trans rfl, (blk_cell BK8.out 11).trans rfl⟩ (fun hHeld => ?_)
        clear hK K
        refine norm_ (a' := ?_) ?_ ?_
        rotate_left
        · show Act.put _ (some 93) _ = _
          simp only [Act.put, List.setIfInBounds_toArray, List.set_cons_zero, List.set_cons_succ, i64_w, i32_w]
          rfl
        refine one_ (i := 9) (N := some 98) #[true, true, true, true, true, true, true, true, true, true, false, false] rfl rfl (one_of HT_.out (by kernel_rfl)) (by decide) (fun K hK => ?_)
        refine goes_ Tryz.func49 (by kernel_rfl) rfl #[.agg #[.int .i64 2, .int .i64 1, .int .i64 8, .slice A8 1 c8], .int .i64 0, .bool false] (by rfl) rfl rfl (by (try simp only [List.map_toArray, List.map_cons, List.map_nil]); first | done | rfl) ?_
        refine (item_turned.calls 2 1 8 A8 c8 [[9, 9]] 0 false 2 1 8 [[9, 9]] _ HC8.out.2 HC8.out.1 canTurned).mono ?_
        rintro e w9 ⟨v9, rfl, hs9, hb9⟩
        refine ⟨_, rfl, ?_⟩
        obtain ⟨A9_, c9_, rfl⟩ := Kd.S_slice hs9
        have HS9 := Aside0.mk (Kd.S_lower hs9 HB8.out.size)
        have BK9 := Aside0.mk (blk_below BK8.out hb9)
        have BKg49 := Aside0.mk (blk_below BKg48.out hb9)
        have HRW9 := Aside0.mk (HRW8.out.below hb9)
        have HB9 := Aside0.mk (pw_below_trans HB8.out hb9)
        clear hs9 hb9
        refine hK.out _ _ ⟨(blk_cell BK9.out 10).trans rfl, (blk_cell BK9.out 11).trans rfl⟩ (fun hHeld => ?_)
        clear hK K
        refine norm_ (a' := ?_) ?_ ?_
        rotate_left
        · show Act.put _ (some 98) _ = _
          simp only [Act.put, List.setIfInBounds_toArray, List.set_cons_zero, List.set_cons_succ, i64_w, i32_w]
          rfl
        refine pure_ (i := 10) (N := some 99) (v := ?_) (a' := ?_) #[true, true, true, true, true, true, true, true, true, true, true, false] rfl rfl (any_of HT_.out (by kernel_rfl)) (fun _ _ _ h => h) (Or.inl ⟨by rfl, ?_⟩) ?_ ?_
        rotate_left
        · intro w'
          go_simp
          with_reducible rfl
        rotate_left
        · simp only [Act.put, List.setIfInBounds_toArray, List.set_cons_zero, List.set_cons_succ, i64_w, i32_w]
          rfl
        refine last_ (i := 11) (N := none) #[true, true, true, true, true, true, true, true, true, true, true, true] rfl rfl (one_of HT_.out (by kernel_rfl)) (by decide) (fun K hK => ?_)
        obtain ⟨p0, p1, p2, p3, f0, f1, f2, f3⟩ := HRW9.out.cell
        refine skip_ (w1 := ?_) (by rfl) rfl ?_ ?_
        rotate_left
        · go_simp
          rfl
        refine hK.out _ _ ?_
        clear hK K
        refine done_ (done_of HT_.out (by kernel_rfl)) ?_
        go_wp2
        go_roundg 0
        case measure => omega
        case rel => exact ⟨1, rfl, ⟨by omega, by omega⟩, ⟨four_below HB9.out GEH.out _ _ _ _⟩, ⟨.inr trivial⟩, ⟨four_far BKg49.out NE4.out _ _ _ _⟩, ⟨fun h => by omega⟩, ⟨fun _ => ⟨_, HRW9.out.put _ _ _ _, Row4.S HS9.out HRW9.out (by decide) _ _ _ _⟩⟩⟩
end Go.Proofs.YtphkionjjhhhlaaGreat.Q
end
section
namespace Go.Proofs.YtphkionjjhhhlaaGreat.Q
open Go.RowKit Go.Proofs.YtphkionjjhhhlaaGreatW.PrintWords Go.Proofs.YtphkionjjhhhlaaGreatW.PrintLast Go.Proofs.YtphkionjjhhhlaaGreatW.PrintMore
theorem R_row2 {W : World} {h1 : Nat} {xs : List Int} (hb : W.heap[h1]? = some (.cells (xs.map (Value.int .i64)).toArray 3 (0, 0))) (hn : xs.length ≤ 1000) : Kd.C (Kd.int .i64) W (some ⟨h1, 0, none⟩) xs.length xs := by
  refine ⟨rfl, by omega, fun _ => ⟨_, rfl, fun j p hj => ⟨[.int .i64 p], rfl, rfl, fun i u hu => ?_⟩⟩⟩
  cases i with
  | succ i => simp at hu
  | zero =>
    have hu : u = .int .i64 p := by simpa using hu.symm
    subst hu
    rw [add_plain]
    refine (blk_cell hb _).trans ?_
    simp [Kd.int, Kd.scalar, hj]
theorem C_img {W : World} {h1 h2 : Nat} {xs : List Int} (hb1 : W.heap[h1]? = some (.cells (xs.map (Value.int .i64)).toArray 3 (0, 0))) (hn : xs.length ≤ 1000) (hb2 : W.heap[h2]? = some (.cells #[.slice (some ⟨h1, 0, none⟩) xs.length xs.length] 39 (0, 0))) :
    Kd.C (Kd.slice 3 (Kd.int .i64)) W (some ⟨h2, 0, none⟩) 1 [xs] := by
  refine ⟨rfl, by decide, fun _ => ⟨_, rfl, fun j p hj => ?_⟩⟩
  cases j with
  | succ j => simp at hj
  | zero =>
    have hj : p = xs := by simpa using hj.symm
    subst hj
    refine ⟨[.slice (some ⟨h1, 0, none⟩) p.length p.length], rfl, ⟨some ⟨h1, 0, none⟩, p.length, rfl, Nat.le_refl _, R_row2 hb1 hn⟩, fun i u hu => ?_⟩
    cases i with
    | succ i => simp at hu
    | zero =>
      have hu : u = .slice (some ⟨h1, 0, none⟩) p.length p.length := by simpa using hu.symm
      subst hu
      rw [add_plain]
      exact (blk_cell hb2 0).trans rfl
theorem C_can {W : World} {h0 h1 : Nat} (hb0 : W.heap[h0]? = some (.cells #[.int .i64 9] 3 (0, 0))) (hb1 : W.heap[h1]? = some (.cells #[.int .i64 4, .int .i64 2, .slice none 0 0, .slice none 0 0, .slice none 0 0, .int .i64 0, .int .i64 0, .int .i64 2, .int .i64 1, .slice (some ⟨h0, 0, none⟩) 1 1, .int .i64 0, .bool false] 68 (0, 0))) :
    Kd.C k68 W (some ⟨h1, 0, none⟩) [canX].length [canX] := by
  refine ⟨rfl, by decide, fun _ => ⟨_, rfl, fun j p hj => ?_⟩⟩
  cases j with
  | succ j => simp at hj
  | zero =>
    have hj : p = canX := by simpa using hj.symm
    subst hj
    have hnil : ∀ k : IntKind, (Kd.int k).C W none 0 [] := fun k => ⟨rfl, by decide, fun h => by omega⟩
    refine ⟨_, rfl, k68_mk W canX (A2 := none) (c2 := 0) (Nat.le_refl _) (hnil _) (A3 := none) (c3 := 0) (Nat.le_refl _) (hnil _) (A4 := none) (c4 := 0) (Nat.le_refl _) (hnil _) (A9 := some ⟨h0, 0, none⟩) (c9 := 1) (Nat.le_refl _) (R_row2 (xs := [9]) hb0 (by decide)), fun i u hu => ?_⟩
    rw [add_plain]
    refine (blk_cell hb1 _).trans ?_
    rw [show (0 * k68.sz + i) = i by omega]
    rw [← hu, ← List.getElem?_toArray]
    rfl
set_option maxHeartbeats 16000000 in
set_option maxRecDepth 100000 in
theorem awake_true (w : World) : Calls Tryz.prog 16 #[] w fun e w' => e = .returned (.bool true) ∧ Below w.heap.size w w' := by
  have hu24 := Tryz.underlying24
  go_enter Tryz.func16, Tryz.ntmps16
  go_upto_region 5 with (first | (go_at_call 32; ((refine (render_canvas (some ⟨w.heap.size + 1, 0, none⟩) 1 _ (C_can (h0 := w.heap.size) (h1 := w.heap.size + 1) (blk_alloc (heap_alloc_new w _) _) (by (have := heap_alloc_new (w.alloc (.cells #[.int .i64 9] 3)) (.cells #[.int .i64 4, .int .i64 2, .slice none 0 0, .slice none 0 0, .slice none 0 0, .int .i64 0, .int .i64 0, .int .i64 2, .int .i64 1, .slice (some ⟨w.heap.size, 0, none⟩) 1 1, .int .i64 0, .bool false] 68); simpa [World.size_alloc] using this))) (Nat.le_refl _)).mono ?_); rintro e w1 ⟨v1, rfl, hs, hb⟩; obtain ⟨A1, c1, rfl, hl, hcc⟩ := Kd.S_reads hs; have HC1 := Aside0.mk (And.intro hl hcc); have HB1 := Aside0.mk (pw_below_trans (below_alloc (below_alloc (Below.refl _ _) _) _) hb); clear hs hb hl hcc)) | (go_at_call 15; ((refine (dioramaref00_EqImage.calls 10 2 1 8 A1 c1 [[9, 9]] 2 1 8 (some ⟨w1.heap.size + 2, 0, none⟩) 1 [[9, 9]] true _ ?c1 HC1.out.1 ?c2 (Nat.le_refl _) (by decide +kernel)).mono ?_); (case c1 => exact Kd.C_alloc (Kd.C_alloc (Kd.C_alloc HC1.out.2 _) _) _); (case c2 => exact C_img (xs := [9, 9]) (h1 := w1.heap.size + 1) (h2 := w1.heap.size + 2) (by (have := blk_alloc (heap_alloc_new (w1.alloc (.cells #[.int .i64 2, .int .i64 1, .int .i64 8, .slice A1 [[9, 9]].length c1] 24)) (.cells #[.int .i64 9, .int .i64 9] 3)) (.cells #[.slice (some ⟨w1.heap.size + 1, 0, none⟩) 2 2] 39); simpa [World.size_alloc] using this)) (by decide) (by (have := heap_alloc_new ((w1.alloc (.cells #[.int .i64 2, .int .i64 1, .int .i64 8, .slice A1 [[9, 9]].length c1] 24)).alloc (.cells #[.int .i64 9, .int .i64 9] 3)) (.cells #[.slice (some ⟨w1.heap.size + 1, 0, none⟩) 2 2] 39); simpa [World.size_alloc] using this))); rintro e w2 ⟨rfl, hb⟩; have HB2 := Aside0.mk (pw_below_trans HB1.out (pw_below_trans (below_alloc (below_alloc (below_alloc (Below.refl _ _) _) _) _) hb)); clear hb)) | (go_at_call 13; ((refine (item_Turn.calls 2 1 8 (some ⟨w2.heap.size + 1, 0, none⟩) 1 [[1, 2]] 0 true 2 1 8 [[2, 1]] 0 _ ?d1 (Nat.le_refl _) (by decide +kernel)).mono ?_); (case d1 => exact C_img (xs := [1, 2]) (h1 := w2.heap.size) (h2 := w2.heap.size + 1) (by (have := blk_alloc (heap_alloc_new w2 (.cells #[.int .i64 1, .int .i64 2] 3)) (.cells #[.slice (some ⟨w2.heap.size, 0, none⟩) 2 2] 39); simpa [World.size_alloc] using this)) (by decide) (by (have := heap_alloc_new (w2.alloc (.cells #[.int .i64 1, .int .i64 2] 3)) (.cells #[.slice (some ⟨w2.heap.size, 0, none⟩) 2 2] 39); simpa [World.size_alloc] using this))); rintro e w3 ⟨v3, rfl, hs, hb⟩; obtain ⟨A3, c3, rfl, hl, hcc⟩ := Kd.S_reads hs; have HC3 := Aside0.mk (And.intro hl hcc); have HB3 := Aside0.mk (pw_below_trans HB2.out (pw_below_trans (below_alloc (below_alloc (Below.refl _ _) _) _) hb)); clear hs hb hl hcc)))
  go_wp2_with (first | (go_at_call 15; ((refine (dioramaref00_EqImage.calls 10 2 1 8 A3 c3 [[2, 1]] 2 1 8 (some ⟨w3.heap.size + 2, 0, none⟩) 1 [[2, 1]] true _ ?e1 HC3.out.1 ?e2 (Nat.le_refl _) (by decide +kernel)).mono ?_); (case e1 => exact Kd.C_alloc (Kd.C_alloc (Kd.C_alloc HC3.out.2 _) _) _); (case e2 => exact C_img (xs := [2, 1]) (h1 := w3.heap.size + 1) (h2 := w3.heap.size + 2) (by (have := blk_alloc (heap_alloc_new (w3.alloc (.cells #[.int .i64 2, .int .i64 1, .int .i64 8, .slice A3 [[2, 1]].length c3] 24)) (.cells #[.int .i64 2, .int .i64 1] 3)) (.cells #[.slice (some ⟨w3.heap.size + 1, 0, none⟩) 2 2] 39); simpa [World.size_alloc] using this)) (by decide) (by (have := heap_alloc_new ((w3.alloc (.cells #[.int .i64 2, .int .i64 1, .int .i64 8, .slice A3 [[2, 1]].length c3] 24)).alloc (.cells #[.int .i64 2, .int .i64 1] 3)) (.cells #[.slice (some ⟨w3.heap.size + 1, 0, none⟩) 2 2] 39); simpa [World.size_alloc] using this))); rintro e w4 ⟨rfl, hb⟩; have HB4 := Aside0.mk (pw_below_trans HB3.out (pw_below_trans (below_alloc (below_alloc (below_alloc (Below.refl _ _) _) _) _) hb)); clear hb)))
  go_ret
  exact ⟨rfl, HB4.out⟩
def dioramalaw15_awake.f (_ : Nat) : Option Bool := some true
theorem dioramalaw15_awake.calls (k : Nat) (r : Bool) (w : World) (h : dioramalaw15_awake.f k = some r) : Calls Tryz.prog 16 #[] w fun e w' => e = .returned (.bool r) ∧ Below w.heap.size w w' := by
  injection h with h
  subst h
  exact awake_true w
end Go.Proofs.YtphkionjjhhhlaaGreat.Q
end
section
namespace Go.Proofs.YtphkionjjhhhlaaGreat.Q
open Go.RowKit Go.Proofs.YtphkionjjhhhlaaGreatW.PrintWords Go.Proofs.YtphkionjjhhhlaaGreatW.PrintLast Go.Proofs.YtphkionjjhhhlaaGreatW.PrintMore
def dioramalaw15_small.l0 : Nat → List (S68) → Int → Option (Bool)
  | 0, _, _ => none
  | k + 1, x0, x3 => if x3 < (x0.length : Int) then (if 0 ≤ x3 then (if (((rd_T68 x0 x3).f2).length : Int) > 20000 then (if (((rd_T68 x0 x3).f2).length : Int) ≤ 65536 then (some false) else (if (((rd_T68 x0 x3).f3).length : Int) > 100 then (some false) else (if (((rd_T68 x0 x3).f4).length : Int) > 100 then (some false) else (if (((rd_T68 x0 x3).f9).length : Int) > 100 then (some false) else (dioramalaw15_small.l0 k x0 (wrap64 (x3 + 1))))))) else (if (((rd_T68 x0 x3).f3).length : Int) > 100 then (some false) else (if (((rd_T68 x0 x3).f4).length : Int) > 100 then (some false) else (if (((rd_T68 x0 x3).f9).length : Int) > 100 then (some false) else (dioramalaw15_small.l0 k x0 (wrap64 (x3 + 1))))))) else (none)) else (some (decide ((x0.length : Int) ≤ 16)))
def dioramalaw15_small.f (k : Nat) (l0 : List (S68)) : Option (Bool) := dioramalaw15_small.l0 k l0 0
set_option maxHeartbeats 8000000 in
set_option maxRecDepth 100000 in
theorem dioramalaw15_small.calls (k : Nat) (A0 : Option Addr) (c0 : Nat) (l0 : List (S68)) (r : Bool) (w : World) (hr0 : Kd.C k68 w A0 l0.length l0) (hc0 : l0.length ≤ c0) (h : dioramalaw15_small.f k l0 = some r) :
    Calls Tryz.prog 18 #[.slice A0 l0.length c0] w fun e w' => e = .returned (.bool r) ∧ Below w.heap.size w w' := by
  have hu68 := Tryz.underlying68
  have HR0 := Aside0.mk hr0
  have HC0 := Aside0.mk hc0
  clear hr0 hc0
  have HB := Aside0.mk (Below.refl w.heap.size w)
  have H : (dioramalaw15_small.l0 k l0 0) = some r := h
  clear h
  have H' := Aside0.mk H
  clear H
  go_enter Tryz.func18, Tryz.ntmps18
  go_wp2
  go_loopg [3] k (fun kq v3 w' => ∃ (x3_1 : Int), v3 = .int .i64 x3_1 ∧ Aside0 (dioramalaw15_small.l0 kq l0 x3_1 = some r) ∧ Aside0 (kq ≤ k) ∧ Aside0 (Below w.heap.size w w'))
  case atStart => exact ⟨(0), (by first | rfl | (simp; done) | (simp [*]; done)), H', ⟨Nat.le_refl _⟩, ⟨by repeat (first | (with_reducible first | exact HB.out | apply below_alloc | apply pw_below_drewN | apply below_drew1) | exact HB.out)⟩⟩
  case round =>
    clear H'
    try clear c1
    obtain ⟨x3_1, rfl, HA, HK1, HB⟩ := hrel
    cases gk with
    | zero => exact absurd HA.out (by simp [dioramalaw15_small.l0])
    | succ k1 =>
      have H := HA.out
      clear HA
      simp only [dioramalaw15_small.l0] at H
      by_cases c2 : x3_1 < (l0.length : Int)
      · rw [if_pos c2] at H
        have c2b0 : decide (x3_1 < (l0.length : Int)) = true := decide_eq_true c2
        clear c2
        by_cases c3 : 0 ≤ x3_1
        · rw [if_pos c3] at H
          have c3b0 : decide (0 ≤ x3_1) = true := decide_eq_true c3
          clear c3
          by_cases c4 : (((rd_T68 l0 x3_1).f2).length : Int) > 20000
          · rw [if_pos c4] at H
            have c4b0 : decide (20000 < (((rd_T68 l0 x3_1).f2).length : Int)) = true := decide_eq_true c4
            have c4b1 : decide (20000 < ((rd_T68 l0 x3_1).f2).length) = true := decide_eq_true (by omega)
            clear c4
            by_cases c5 : (((rd_T68 l0 x3_1).f2).length : Int) ≤ 65536
            · rw [if_pos c5] at H
              have c5b0 : decide ((((rd_T68 l0 x3_1).f2).length : Int) ≤ 65536) = true := decide_eq_true c5
              have c5b1 : decide (((rd_T68 l0 x3_1).f2).length ≤ 65536) = true := decide_eq_true (by omega)
              clear c5
              obtain rfl := Option.some.inj H
              have p315 : 0 ≤ (x3_1 : Int) := of_decide_eq_true (by first | (with_reducible assumption) | assumption)
              have q315 : x3_1 < (l0.length : Int) := of_decide_eq_true (by first | (with_reducible assumption) | assumption)
              obtain ⟨ad315, A315_2, c315_2, A315_3, c315_3, A315_4, c315_4, A315_9, c315_9, e315, hx315_0, hx315_1, hx315_2, hx315_3, hx315_4, hx315_5, hx315_6, hx315_7, hx315_8, hx315_9, hx315_10, hx315_11, hl315_2, hi315_2, hl315_3, hi315_3, hl315_4, hi315_4, hl315_9, hi315_9⟩ := at_T68 HR0.out x3_1 p315 q315
              cases e315
              replace hx315_0 := (HB.out.cell (World.block_lt_of_cell? w _ hx315_0)).trans hx315_0
              replace hx315_1 := (HB.out.cell (World.block_lt_of_cell? w _ hx315_1)).trans hx315_1
              replace hx315_2 := (HB.out.cell (World.block_lt_of_cell? w _ hx315_2)).trans hx315_2
              replace hx315_3 := (HB.out.cell (World.block_lt_of_cell? w _ hx315_3)).trans hx315_3
              replace hx315_4 := (HB.out.cell (World.block_lt_of_cell? w _ hx315_4)).trans hx315_4
              replace hx315_5 := (HB.out.cell (World.block_lt_of_cell? w _ hx315_5)).trans hx315_5
              replace hx315_6 := (HB.out.cell (World.block_lt_of_cell? w _ hx315_6)).trans hx315_6
              replace hx315_7 := (HB.out.cell (World.block_lt_of_cell? w _ hx315_7)).trans hx315_7
              replace hx315_8 := (HB.out.cell (World.block_lt_of_cell? w _ hx315_8)).trans hx315_8
              replace hx315_9 := (HB.out.cell (World.block_lt_of_cell? w _ hx315_9)).trans hx315_9
              replace hx315_10 := (HB.out.cell (World.block_lt_of_cell? w _ hx315_10)).trans hx315_10
              replace hx315_11 := (HB.out.cell (World.block_lt_of_cell? w _ hx315_11)).trans hx315_11
              have HR315_2 := Aside0.mk hi315_2
              have HC315_2 := Aside0.mk hl315_2
              clear hi315_2 hl315_2
              have HR315_3 := Aside0.mk hi315_3
              have HC315_3 := Aside0.mk hl315_3
              clear hi315_3 hl315_3
              have HR315_4 := Aside0.mk hi315_4
              have HC315_4 := Aside0.mk hl315_4
              clear hi315_4 hl315_4
              have HR315_9 := Aside0.mk hi315_9
              have HC315_9 := Aside0.mk hl315_9
              clear hi315_9 hl315_9
              replace p315 := eq_true p315
              replace q315 := eq_true q315
              go_wp2_with (first | ((with_reducible refine gate_dst (N := 4) rfl ?_); (try (refine gate_guard (by rfl) ?_; dsimp only)); refine box_event ?hg (N := 4) ?hd (cs := #[.int .i64 0, .int .i64 0, .slice none 0 0, .slice none 0 0, .slice none 0 0, .int .i64 0, .int .i64 0, .int .i64 0, .int .i64 0, .slice none 0 0, .int .i64 0, .bool false]) (t := 68) ?hr ?_; (case hd => rfl); (case hg => rfl); (case hr => first | (go_simp; done) | (go_simp; rfl)); intro gb316 hg w6 hbox hb; have n0_ := Aside0.mk (below_step (by repeat (first | (with_reducible first | exact HB.out | apply below_alloc | apply pw_below_drewN | apply below_drew1) | exact HB.out)) hb); have n1_ := Aside0.mk (hbox); have n2_ := Aside0.mk ((by rw [hg]; exact (below_size (by repeat (first | (with_reducible first | exact HB.out | apply below_alloc | apply pw_below_drewN | apply below_drew1) | exact HB.out))) : w.heap.size ≤ gb316)); have n3_ := Aside0.mk ((by rw [hg]; exact (below_size (by repeat (first | (with_reducible first | exact HB.out | apply below_alloc | apply pw_below_drewN | apply below_drew1) | exact HB.out))) : w.heap.size ≤ gb316)); clear HB; have HB := n0_; have BK316 := n1_; have GW316 := n2_; have GE316 := n3_; clear n0_ n1_ n2_ n3_; clear hb hbox hg; have hcz7_0 : w6.cell? ⟨gb316, 0, none⟩ = some (.int .i64 0) := (blk_cell BK316.out 0).trans rfl; have hcz7_1 : w6.cell? ⟨gb316, 1, none⟩ = some (.int .i64 0) := (blk_cell BK316.out 1).trans rfl; have hcz7_2 : w6.cell? ⟨gb316, 2, none⟩ = some (.slice none 0 0) := (blk_cell BK316.out 2).trans rfl; have hcz7_3 : w6.cell? ⟨gb316, 3, none⟩ = some (.slice none 0 0) := (blk_cell BK316.out 3).trans rfl; have hcz7_4 : w6.cell? ⟨gb316, 4, none⟩ = some (.slice none 0 0) := (blk_cell BK316.out 4).trans rfl; have hcz7_5 : w6.cell? ⟨gb316, 5, none⟩ = some (.int .i64 0) := (blk_cell BK316.out 5).trans rfl; have hcz7_6 : w6.cell? ⟨gb316, 6, none⟩ = some (.int .i64 0) := (blk_cell BK316.out 6).trans rfl; have hcz7_7 : w6.cell? ⟨gb316, 7, none⟩ = some (.int .i64 0) := (blk_cell BK316.out 7).trans rfl; have hcz7_8 : w6.cell? ⟨gb316, 8, none⟩ = some (.int .i64 0) := (blk_cell BK316.out 8).trans rfl; have hcz7_9 : w6.cell? ⟨gb316, 9, none⟩ = some (.slice none 0 0) := (blk_cell BK316.out 9).trans rfl; have hcz7_10 : w6.cell? ⟨gb316, 10, none⟩ = some (.int .i64 0) := (blk_cell BK316.out 10).trans rfl; have hcz7_11 : w6.cell? ⟨gb316, 11, none⟩ = some (.bool false) := (blk_cell BK316.out 11).trans rfl; have hfz7_0 := blk_frozen BK316.out 0; have hfz7_1 := blk_frozen BK316.out 1; have hfz7_2 := blk_frozen BK316.out 2; have hfz7_3 := blk_frozen BK316.out 3; have hfz7_4 := blk_frozen BK316.out 4; have hfz7_5 := blk_frozen BK316.out 5; have hfz7_6 := blk_frozen BK316.out 6; have hfz7_7 := blk_frozen BK316.out 7; have hfz7_8 := blk_frozen BK316.out 8; have hfz7_9 := blk_frozen BK316.out 9; have hfz7_10 := blk_frozen BK316.out 10; have hfz7_11 := blk_frozen BK316.out 11))
              go_ret
              exact ⟨by first | rfl | (simp [errW_none, errW_some] <;> rfl) | (simp [*, errW_none, errW_some] <;> rfl), by repeat (first | (with_reducible first | exact HB.out | apply below_alloc | apply pw_below_drewN | apply below_drew1 | refine below_set ?_ GE316.out) | exact HB.out)⟩
            · rw [if_neg c5] at H
              have c5b0 : decide ((((rd_T68 l0 x3_1).f2).length : Int) ≤ 65536) = false := decide_eq_false c5
              have c5b1 : decide (((rd_T68 l0 x3_1).f2).length ≤ 65536) = false := decide_eq_false (by omega)
              clear c5
              by_cases c8 : (((rd_T68 l0 x3_1).f3).length : Int) > 100
              · rw [if_pos c8] at H
                have c8b0 : decide (100 < (((rd_T68 l0 x3_1).f3).length : Int)) = true := decide_eq_true c8
                have c8b1 : decide (100 < ((rd_T68 l0 x3_1).f3).length) = true := decide_eq_true (by omega)
                clear c8
                obtain rfl := Option.some.inj H
                have p315 : 0 ≤ (x3_1 : Int) := of_decide_eq_true (by first | (with_reducible assumption) | assumption)
                have q315 : x3_1 < (l0.length : Int) := of_decide_eq_true (by first | (with_reducible assumption) | assumption)
                obtain ⟨ad315, A315_2, c315_2, A315_3, c315_3, A315_4, c315_4, A315_9, c315_9, e315, hx315_0, hx315_1, hx315_2, hx315_3, hx315_4, hx315_5, hx315_6, hx315_7, hx315_8, hx315_9, hx315_10, hx315_11, hl315_2, hi315_2, hl315_3, hi315_3, hl315_4, hi315_4, hl315_9, hi315_9⟩ := at_T68 HR0.out x3_1 p315 q315
                cases e315
                replace hx315_0 := (HB.out.cell (World.block_lt_of_cell? w _ hx315_0)).trans hx315_0
                replace hx315_1 := (HB.out.cell (World.block_lt_of_cell? w _ hx315_1)).trans hx315_1
                replace hx315_2 := (HB.out.cell (World.block_lt_of_cell? w _ hx315_2)).trans hx315_2
                replace hx315_3 := (HB.out.cell (World.block_lt_of_cell? w _ hx315_3)).trans hx315_3
                replace hx315_4 := (HB.out.cell (World.block_lt_of_cell? w _ hx315_4)).trans hx315_4
                replace hx315_5 := (HB.out.cell (World.block_lt_of_cell? w _ hx315_5)).trans hx315_5
                replace hx315_6 := (HB.out.cell (World.block_lt_of_cell? w _ hx315_6)).trans hx315_6
                replace hx315_7 := (HB.out.cell (World.block_lt_of_cell? w _ hx315_7)).trans hx315_7
                replace hx315_8 := (HB.out.cell (World.block_lt_of_cell? w _ hx315_8)).trans hx315_8
                replace hx315_9 := (HB.out.cell (World.block_lt_of_cell? w _ hx315_9)).trans hx315_9
                replace hx315_10 := (HB.out.cell (World.block_lt_of_cell? w _ hx315_10)).trans hx315_10
                replace hx315_11 := (HB.out.cell (World.block_lt_of_cell? w _ hx315_11)).trans hx315_11
                have HR315_2 := Aside0.mk hi315_2
                have HC315_2 := Aside0.mk hl315_2
                clear hi315_2 hl315_2
                have HR315_3 := Aside0.mk hi315_3
                have HC315_3 := Aside0.mk hl315_3
                clear hi315_3 hl315_3
                have HR315_4 := Aside0.mk hi315_4
                have HC315_4 := Aside0.mk hl315_4
                clear hi315_4 hl315_4
                have HR315_9 := Aside0.mk hi315_9
                have HC315_9 := Aside0.mk hl315_9
                clear hi315_9 hl315_9
                replace p315 := eq_true p315
                replace q315 := eq_true q315
                go_wp2_with (first | ((with_reducible refine gate_dst (N := 4) rfl ?_); (try (refine gate_guard (by rfl) ?_; dsimp only)); refine box_event ?hg (N := 4) ?hd (cs := #[.int .i64 0, .int .i64 0, .slice none 0 0, .slice none 0 0, .slice none 0 0, .int .i64 0, .int .i64 0, .int .i64 0, .int .i64 0, .slice none 0 0, .int .i64 0, .bool false]) (t := 68) ?hr ?_; (case hd => rfl); (case hg => rfl); (case hr => first | (go_simp; done) | (go_simp; rfl)); intro gb316 hg w9 hbox hb; have n0_ := Aside0.mk (below_step (by repeat (first | (with_reducible first | exact HB.out | apply below_alloc | apply pw_below_drewN | apply below_drew1) | exact HB.out)) hb); have n1_ := Aside0.mk (hbox); have n2_ := Aside0.mk ((by rw [hg]; exact (below_size (by repeat (first | (with_reducible first | exact HB.out | apply below_alloc | apply pw_below_drewN | apply below_drew1) | exact HB.out))) : w.heap.size ≤ gb316)); have n3_ := Aside0.mk ((by rw [hg]; exact (below_size (by repeat (first | (with_reducible first | exact HB.out | apply below_alloc | apply pw_below_drewN | apply below_drew1) | exact HB.out))) : w.heap.size ≤ gb316)); clear HB; have HB := n0_; have BK316 := n1_; have GW316 := n2_; have GE316 := n3_; clear n0_ n1_ n2_ n3_; clear hb hbox hg; have hcz10_0 : w9.cell? ⟨gb316, 0, none⟩ = some (.int .i64 0) := (blk_cell BK316.out 0).trans rfl; have hcz10_1 : w9.cell? ⟨gb316, 1, none⟩ = some (.int .i64 0) := (blk_cell BK316.out 1).trans rfl; have hcz10_2 : w9.cell? ⟨gb316, 2, none⟩ = some (.slice none 0 0) := (blk_cell BK316.out 2).trans rfl; have hcz10_3 : w9.cell? ⟨gb316, 3, none⟩ = some (.slice none 0 0) := (blk_cell BK316.out 3).trans rfl; have hcz10_4 : w9.cell? ⟨gb316, 4, none⟩ = some (.slice none 0 0) := (blk_cell BK316.out 4).trans rfl; have hcz10_5 : w9.cell? ⟨gb316, 5, none⟩ = some (.int .i64 0) := (blk_cell BK316.out 5).trans rfl; have hcz10_6 : w9.cell? ⟨gb316, 6, none⟩ = some (.int .i64 0) := (blk_cell BK316.out 6).trans rfl; have hcz10_7 : w9.cell? ⟨gb316, 7, none⟩ = some (.int .i64 0) := (blk_cell BK316.out 7).trans rfl; have hcz10_8 : w9.cell? ⟨gb316, 8, none⟩ = some (.int .i64 0) := (blk_cell BK316.out 8).trans rfl; have hcz10_9 : w9.cell? ⟨gb316, 9, none⟩ = some (.slice none 0 0) := (blk_cell BK316.out 9).trans rfl; have hcz10_10 : w9.cell? ⟨gb316, 10, none⟩ = some (.int .i64 0) := (blk_cell BK316.out 10).trans rfl; have hcz10_11 : w9.cell? ⟨gb316, 11, none⟩ = some (.bool false) := (blk_cell BK316.out 11).trans rfl; have hfz10_0 := blk_frozen BK316.out 0; have hfz10_1 := blk_frozen BK316.out 1; have hfz10_2 := blk_frozen BK316.out 2; have hfz10_3 := blk_frozen BK316.out 3; have hfz10_4 := blk_frozen BK316.out 4; have hfz10_5 := blk_frozen BK316.out 5; have hfz10_6 := blk_frozen BK316.out 6; have hfz10_7 := blk_frozen BK316.out 7; have hfz10_8 := blk_frozen BK316.out 8; have hfz10_9 := blk_frozen BK316.out 9; have hfz10_10 := blk_frozen BK316.out 10; have hfz10_11 := blk_frozen BK316.out 11))
                go_ret
                exact ⟨by first | rfl | (simp [errW_none, errW_some] <;> rfl) | (simp [*, errW_none, errW_some] <;> rfl), by repeat (first | (with_reducible first | exact HB.out | apply below_alloc | apply pw_below_drewN | apply below_drew1 | refine below_set ?_ GE316.out) | exact HB.out)⟩
              · rw [if_neg c8] at H
                have c8b0 : decide (100 < (((rd_T68 l0 x3_1).f3).length : Int)) = false := decide_eq_false c8
                have c8b1 : decide (100 < ((rd_T68 l0 x3_1).f3).length) = false := decide_eq_false (by omega)
                clear c8
                by_cases c11 : (((rd_T68 l0 x3_1).f4).length : Int) > 100
                · rw [if_pos c11] at H
                  have c11b0 : decide (100 < (((rd_T68 l0 x3_1).f4).length : Int)) = true := decide_eq_true c11
                  have c11b1 : decide (100 < ((rd_T68 l0 x3_1).f4).length) = true := decide_eq_true (by omega)
                  clear c11
                  obtain rfl := Option.some.inj H
                  have p315 : 0 ≤ (x3_1 : Int) := of_decide_eq_true (by first | (with_reducible assumption) | assumption)
                  have q315 : x3_1 < (l0.length : Int) := of_decide_eq_true (by first | (with_reducible assumption) | assumption)
                  obtain ⟨ad315, A315_2, c315_2, A315_3, c315_3, A315_4, c315_4, A315_9, c315_9, e315, hx315_0, hx315_1, hx315_2, hx315_3, hx315_4, hx315_5, hx315_6, hx315_7, hx315_8, hx315_9, hx315_10, hx315_11, hl315_2, hi315_2, hl315_3, hi315_3, hl315_4, hi315_4, hl315_9, hi315_9⟩ := at_T68 HR0.out x3_1 p315 q315
                  cases e315
                  replace hx315_0 := (HB.out.cell (World.block_lt_of_cell? w _ hx315_0)).trans hx315_0
                  replace hx315_1 := (HB.out.cell (World.block_lt_of_cell? w _ hx315_1)).trans hx315_1
                  replace hx315_2 := (HB.out.cell (World.block_lt_of_cell? w _ hx315_2)).trans hx315_2
                  replace hx315_3 := (HB.out.cell (World.block_lt_of_cell? w _ hx315_3)).trans hx315_3
                  replace hx315_4 := (HB.out.cell (World.block_lt_of_cell? w _ hx315_4)).trans hx315_4
                  replace hx315_5 := (HB.out.cell (World.block_lt_of_cell? w _ hx315_5)).trans hx315_5
                  replace hx315_6 := (HB.out.cell (World.block_lt_of_cell? w _ hx315_6)).trans hx315_6
                  replace hx315_7 := (HB.out.cell (World.block_lt_of_cell? w _ hx315_7)).trans hx315_7
                  replace hx315_8 := (HB.out.cell (World.block_lt_of_cell? w _ hx315_8)).trans hx315_8
                  replace hx315_9 := (HB.out.cell (World.block_lt_of_cell? w _ hx315_9)).trans hx315_9
                  replace hx315_10 := (HB.out.cell (World.block_lt_of_cell? w _ hx315_10)).trans hx315_10
                  replace hx315_11 := (HB.out.cell (World.block_lt_of_cell? w _ hx315_11)).trans hx315_11
                  have HR315_2 := Aside0.mk hi315_2
                  have HC315_2 := Aside0.mk hl315_2
                  clear hi315_2 hl315_2
                  have HR315_3 := Aside0.mk hi315_3
                  have HC315_3 := Aside0.mk hl315_3
                  clear hi315_3 hl315_3
                  have HR315_4 := Aside0.mk hi315_4
                  have HC315_4 := Aside0.mk hl315_4
                  clear hi315_4 hl315_4
                  have HR315_9 := Aside0.mk hi315_9
                  have HC315_9 := Aside0.mk hl315_9
                  clear hi315_9 hl315_9
                  replace p315 := eq_true p315
                  replace q315 := eq_true q315
                  go_wp2_with (first | ((with_reducible refine gate_dst (N := 4) rfl ?_); (try (refine gate_guard (by rfl) ?_; dsimp only)); refine box_event ?hg (N := 4) ?hd (cs := #[.int .i64 0, .int .i64 0, .slice none 0 0, .slice none 0 0, .slice none 0 0, .int .i64 0, .int .i64 0, .int .i64 0, .int .i64 0, .slice none 0 0, .int .i64 0, .bool false]) (t := 68) ?hr ?_; (case hd => rfl); (case hg => rfl); (case hr => first | (go_simp; done) | (go_simp; rfl)); intro gb316 hg w12 hbox hb; have n0_ := Aside0.mk (below_step (by repeat (first | (with_reducible first | exact HB.out | apply below_alloc | apply pw_below_drewN | apply below_drew1) | exact HB.out)) hb); have n1_ := Aside0.mk (hbox); have n2_ := Aside0.mk ((by rw [hg]; exact (below_size (by repeat (first | (with_reducible first | exact HB.out | apply below_alloc | apply pw_below_drewN | apply below_drew1) | exact HB.out))) : w.heap.size ≤ gb316)); have n3_ := Aside0.mk ((by rw [hg]; exact (below_size (by repeat (first | (with_reducible first | exact HB.out | apply below_alloc | apply pw_below_drewN | apply below_drew1) | exact HB.out))) : w.heap.size ≤ gb316)); clear HB; have HB := n0_; have BK316 := n1_; have GW316 := n2_; have GE316 := n3_; clear n0_ n1_ n2_ n3_; clear hb hbox hg; have hcz13_0 : w12.cell? ⟨gb316, 0, none⟩ = some (.int .i64 0) := (blk_cell BK316.out 0).trans rfl; have hcz13_1 : w12.cell? ⟨gb316, 1, none⟩ = some (.int .i64 0) := (blk_cell BK316.out 1).trans rfl; have hcz13_2 : w12.cell? ⟨gb316, 2, none⟩ = some (.slice none 0 0) := (blk_cell BK316.out 2).trans rfl; have hcz13_3 : w12.cell? ⟨gb316, 3, none⟩ = some (.slice none 0 0) := (blk_cell BK316.out 3).trans rfl; have hcz13_4 : w12.cell? ⟨gb316, 4, none⟩ = some (.slice none 0 0) := (blk_cell BK316.out 4).trans rfl; have hcz13_5 : w12.cell? ⟨gb316, 5, none⟩ = some (.int .i64 0) := (blk_cell BK316.out 5).trans rfl; have hcz13_6 : w12.cell? ⟨gb316, 6, none⟩ = some (.int .i64 0) := (blk_cell BK316.out 6).trans rfl; have hcz13_7 : w12.cell? ⟨gb316, 7, none⟩ = some (.int .i64 0) := (blk_cell BK316.out 7).trans rfl; have hcz13_8 : w12.cell? ⟨gb316, 8, none⟩ = some (.int .i64 0) := (blk_cell BK316.out 8).trans rfl; have hcz13_9 : w12.cell? ⟨gb316, 9, none⟩ = some (.slice none 0 0) := (blk_cell BK316.out 9).trans rfl; have hcz13_10 : w12.cell? ⟨gb316, 10, none⟩ = some (.int .i64 0) := (blk_cell BK316.out 10).trans rfl; have hcz13_11 : w12.cell? ⟨gb316, 11, none⟩ = some (.bool false) := (blk_cell BK316.out 11).trans rfl; have hfz13_0 := blk_frozen BK316.out 0; have hfz13_1 := blk_frozen BK316.out 1; have hfz13_2 := blk_frozen BK316.out 2; have hfz13_3 := blk_frozen BK316.out 3; have hfz13_4 := blk_frozen BK316.out 4; have hfz13_5 := blk_frozen BK316.out 5; have hfz13_6 := blk_frozen BK316.out 6; have hfz13_7 := blk_frozen BK316.out 7; have hfz13_8 := blk_frozen BK316.out 8; have hfz13_9 := blk_frozen BK316.out 9; have hfz13_10 := blk_frozen BK316.out 10; have hfz13_11 := blk_frozen BK316.out 11))
                  go_ret
                  exact ⟨by first | rfl | (simp [errW_none, errW_some] <;> rfl) | (simp [*, errW_none, errW_some] <;> rfl), by repeat (first | (with_reducible first | exact HB.out | apply below_alloc | apply pw_below_drewN | apply below_drew1 | refine below_set ?_ GE316.out) | exact HB.out)⟩
                · rw [if_neg c11] at H
                  have c11b0 : decide (100 < (((rd_T68 l0 x3_1).f4).length : Int)) = false := decide_eq_false c11
                  have c11b1 : decide (100 < ((rd_T68 l0 x3_1).f4).length) = false := decide_eq_false (by omega)
                  clear c11
                  by_cases c14 : (((rd_T68 l0 x3_1).f9).length : Int) > 100
                  · rw [if_pos c14] at H
                    have c14b0 : decide (100 < (((rd_T68 l0 x3_1).f9).length : Int)) = true := decide_eq_true c14
                    have c14b1 : decide (100 < ((rd_T68 l0 x3_1).f9).length) = true := decide_eq_true (by omega)
                    clear c14
                    obtain rfl := Option.some.inj H
                    have p315 : 0 ≤ (x3_1 : Int) := of_decide_eq_true (by first | (with_reducible assumption) | assumption)
                    have q315 : x3_1 < (l0.length : Int) := of_decide_eq_true (by first | (with_reducible assumption) | assumption)
                    obtain ⟨ad315, A315_2, c315_2, A315_3, c315_3, A315_4, c315_4, A315_9, c315_9, e315, hx315_0, hx315_1, hx315_2, hx315_3, hx315_4, hx315_5, hx315_6, hx315_7, hx315_8, hx315_9, hx315_10, hx315_11, hl315_2, hi315_2, hl315_3, hi315_3, hl315_4, hi315_4, hl315_9, hi315_9⟩ := at_T68 HR0.out x3_1 p315 q315
                    cases e315
                    replace hx315_0 := (HB.out.cell (World.block_lt_of_cell? w _ hx315_0)).trans hx315_0
                    replace hx315_1 := (HB.out.cell (World.block_lt_of_cell? w _ hx315_1)).trans hx315_1
                    replace hx315_2 := (HB.out.cell (World.block_lt_of_cell? w _ hx315_2)).trans hx315_2
                    replace hx315_3 := (HB.out.cell (World.block_lt_of_cell? w _ hx315_3)).trans hx315_3
                    replace hx315_4 := (HB.out.cell (World.block_lt_of_cell? w _ hx315_4)).trans hx315_4
                    replace hx315_5 := (HB.out.cell (World.block_lt_of_cell? w _ hx315_5)).trans hx315_5
                    replace hx315_6 := (HB.out.cell (World.block_lt_of_cell? w _ hx315_6)).trans hx315_6
                    replace hx315_7 := (HB.out.cell (World.block_lt_of_cell? w _ hx315_7)).trans hx315_7
                    replace hx315_8 := (HB.out.cell (World.block_lt_of_cell? w _ hx315_8)).trans hx315_8
                    replace hx315_9 := (HB.out.cell (World.block_lt_of_cell? w _ hx315_9)).trans hx315_9
                    replace hx315_10 := (HB.out.cell (World.block_lt_of_cell? w _ hx315_10)).trans hx315_10
                    replace hx315_11 := (HB.out.cell (World.block_lt_of_cell? w _ hx315_11)).trans hx315_11
                    have HR315_2 := Aside0.mk hi315_2
                    have HC315_2 := Aside0.mk hl315_2
                    clear hi315_2 hl315_2
                    have HR315_3 := Aside0.mk hi315_3
                    have HC315_3 := Aside0.mk hl315_3
                    clear hi315_3 hl315_3
                    have HR315_4 := Aside0.mk hi315_4
                    have HC315_4 := Aside0.mk hl315_4
                    clear hi315_4 hl315_4
                    have HR315_9 := Aside0.mk hi315_9
                    have HC315_9 := Aside0.mk hl315_9
                    clear hi315_9 hl315_9
                    replace p315 := eq_true p315
                    replace q315 := eq_true q315
                    go_wp2_with (first | ((with_reducible refine gate_dst (N := 4) rfl ?_); (try (refine gate_guard (by rfl) ?_; dsimp only)); refine box_event ?hg (N := 4) ?hd (cs := #[.int .i64 0, .int .i64 0, .slice none 0 0, .slice none 0 0, .slice none 0 0, .int .i64 0, .int .i64 0, .int .i64 0, .int .i64 0, .slice none 0 0, .int .i64 0, .bool false]) (t := 68) ?hr ?_; (case hd => rfl); (case hg => rfl); (case hr => first | (go_simp; done) | (go_simp; rfl)); intro gb316 hg w15 hbox hb; have n0_ := Aside0.mk (below_step (by repeat (first | (with_reducible first | exact HB.out | apply below_alloc | apply pw_below_drewN | apply below_drew1) | exact HB.out)) hb); have n1_ := Aside0.mk (hbox); have n2_ := Aside0.mk ((by rw [hg]; exact (below_size (by repeat (first | (with_reducible first | exact HB.out | apply below_alloc | apply pw_below_drewN | apply below_drew1) | exact HB.out))) : w.heap.size ≤ gb316)); have n3_ := Aside0.mk ((by rw [hg]; exact (below_size (by repeat (first | (with_reducible first | exact HB.out | apply below_alloc | apply pw_below_drewN | apply below_drew1) | exact HB.out))) : w.heap.size ≤ gb316)); clear HB; have HB := n0_; have BK316 := n1_; have GW316 := n2_; have GE316 := n3_; clear n0_ n1_ n2_ n3_; clear hb hbox hg; have hcz16_0 : w15.cell? ⟨gb316, 0, none⟩ = some (.int .i64 0) := (blk_cell BK316.out 0).trans rfl; have hcz16_1 : w15.cell? ⟨gb316, 1, none⟩ = some (.int .i64 0) := (blk_cell BK316.out 1).trans rfl; have hcz16_2 : w15.cell? ⟨gb316, 2, none⟩ = some (.slice none 0 0) := (blk_cell BK316.out 2).trans rfl; have hcz16_3 : w15.cell? ⟨gb316, 3, none⟩ = some (.slice none 0 0) := (blk_cell BK316.out 3).trans rfl; have hcz16_4 : w15.cell? ⟨gb316, 4, none⟩ = some (.slice none 0 0) := (blk_cell BK316.out 4).trans rfl; have hcz16_5 : w15.cell? ⟨gb316, 5, none⟩ = some (.int .i64 0) := (blk_cell BK316.out 5).trans rfl; have hcz16_6 : w15.cell? ⟨gb316, 6, none⟩ = some (.int .i64 0) := (blk_cell BK316.out 6).trans rfl; have hcz16_7 : w15.cell? ⟨gb316, 7, none⟩ = some (.int .i64 0) := (blk_cell BK316.out 7).trans rfl; have hcz16_8 : w15.cell? ⟨gb316, 8, none⟩ = some (.int .i64 0) := (blk_cell BK316.out 8).trans rfl; have hcz16_9 : w15.cell? ⟨gb316, 9, none⟩ = some (.slice none 0 0) := (blk_cell BK316.out 9).trans rfl; have hcz16_10 : w15.cell? ⟨gb316, 10, none⟩ = some (.int .i64 0) := (blk_cell BK316.out 10).trans rfl; have hcz16_11 : w15.cell? ⟨gb316, 11, none⟩ = some (.bool false) := (blk_cell BK316.out 11).trans rfl; have hfz16_0 := blk_frozen BK316.out 0; have hfz16_1 := blk_frozen BK316.out 1; have hfz16_2 := blk_frozen BK316.out 2; have hfz16_3 := blk_frozen BK316.out 3; have hfz16_4 := blk_frozen BK316.out 4; have hfz16_5 := blk_frozen BK316.out 5; have hfz16_6 := blk_frozen BK316.out 6; have hfz16_7 := blk_frozen BK316.out 7; have hfz16_8 := blk_frozen BK316.out 8; have hfz16_9 := blk_frozen BK316.out 9; have hfz16_10 := blk_frozen BK316.out 10; have hfz16_11 := blk_frozen BK316.out 11))
                    go_ret
                    exact ⟨by first | rfl | (simp [errW_none, errW_some] <;> rfl) | (simp [*, errW_none, errW_some] <;> rfl), by repeat (first | (with_reducible first | exact HB.out | apply below_alloc | apply pw_below_drewN | apply below_drew1 | refine below_set ?_ GE316.out) | exact HB.out)⟩
                  · rw [if_neg c14] at H
                    have c14b0 : decide (100 < (((rd_T68 l0 x3_1).f9).length : Int)) = false := decide_eq_false c14
                    have c14b1 : decide (100 < ((rd_T68 l0 x3_1).f9).length) = false := decide_eq_false (by omega)
                    clear c14
                    have H' := Aside0.mk H
                    clear H
                    have p315 : 0 ≤ (x3_1 : Int) := of_decide_eq_true (by first | (with_reducible assumption) | assumption)
                    have q315 : x3_1 < (l0.length : Int) := of_decide_eq_true (by first | (with_reducible assumption) | assumption)
                    obtain ⟨ad315, A315_2, c315_2, A315_3, c315_3, A315_4, c315_4, A315_9, c315_9, e315, hx315_0, hx315_1, hx315_2, hx315_3, hx315_4, hx315_5, hx315_6, hx315_7, hx315_8, hx315_9, hx315_10, hx315_11, hl315_2, hi315_2, hl315_3, hi315_3, hl315_4, hi315_4, hl315_9, hi315_9⟩ := at_T68 HR0.out x3_1 p315 q315
                    cases e315
                    replace hx315_0 := (HB.out.cell (World.block_lt_of_cell? w _ hx315_0)).trans hx315_0
                    replace hx315_1 := (HB.out.cell (World.block_lt_of_cell? w _ hx315_1)).trans hx315_1
                    replace hx315_2 := (HB.out.cell (World.block_lt_of_cell? w _ hx315_2)).trans hx315_2
                    replace hx315_3 := (HB.out.cell (World.block_lt_of_cell? w _ hx315_3)).trans hx315_3
                    replace hx315_4 := (HB.out.cell (World.block_lt_of_cell? w _ hx315_4)).trans hx315_4
                    replace hx315_5 := (HB.out.cell (World.block_lt_of_cell? w _ hx315_5)).trans hx315_5
                    replace hx315_6 := (HB.out.cell (World.block_lt_of_cell? w _ hx315_6)).trans hx315_6
                    replace hx315_7 := (HB.out.cell (World.block_lt_of_cell? w _ hx315_7)).trans hx315_7
                    replace hx315_8 := (HB.out.cell (World.block_lt_of_cell? w _ hx315_8)).trans hx315_8
                    replace hx315_9 := (HB.out.cell (World.block_lt_of_cell? w _ hx315_9)).trans hx315_9
                    replace hx315_10 := (HB.out.cell (World.block_lt_of_cell? w _ hx315_10)).trans hx315_10
                    replace hx315_11 := (HB.out.cell (World.block_lt_of_cell? w _ hx315_11)).trans hx315_11
                    have HR315_2 := Aside0.mk hi315_2
                    have HC315_2 := Aside0.mk hl315_2
                    clear hi315_2 hl315_2
                    have HR315_3 := Aside0.mk hi315_3
                    have HC315_3 := Aside0.mk hl315_3
                    clear hi315_3 hl315_3
                    have HR315_4 := Aside0.mk hi315_4
                    have HC315_4 := Aside0.mk hl315_4
                    clear hi315_4 hl315_4
                    have HR315_9 := Aside0.mk hi315_9
                    have HC315_9 := Aside0.mk hl315_9
                    clear hi315_9 hl315_9
                    replace p315 := eq_true p315
                    replace q315 := eq_true q315
                    go_wp2_with (first | ((with_reducible refine gate_dst (N := 4) rfl ?_); (try (refine gate_guard (by rfl) ?_; dsimp only)); refine box_event ?hg (N := 4) ?hd (cs := #[.int .i64 0, .int .i64 0, .slice none 0 0, .slice none 0 0, .slice none 0 0, .int .i64 0, .int .i64 0, .int .i64 0, .int .i64 0, .slice none 0 0, .int .i64 0, .bool false]) (t := 68) ?hr ?_; (case hd => rfl); (case hg => rfl); (case hr => first | (go_simp; done) | (go_simp; rfl)); intro gb316 hg w17 hbox hb; have n0_ := Aside0.mk (below_step (by repeat (first | (with_reducible first | exact HB.out | apply below_alloc | apply pw_below_drewN | apply below_drew1) | exact HB.out)) hb); have n1_ := Aside0.mk (hbox); have n2_ := Aside0.mk ((by rw [hg]; exact (below_size (by repeat (first | (with_reducible first | exact HB.out | apply below_alloc | apply pw_below_drewN | apply below_drew1) | exact HB.out))) : w.heap.size ≤ gb316)); have n3_ := Aside0.mk ((by rw [hg]; exact (below_size (by repeat (first | (with_reducible first | exact HB.out | apply below_alloc | apply pw_below_drewN | apply below_drew1) | exact HB.out))) : w.heap.size ≤ gb316)); clear HB; have HB := n0_; have BK316 := n1_; have GW316 := n2_; have GE316 := n3_; clear n0_ n1_ n2_ n3_; clear hb hbox hg; have hcz18_0 : w17.cell? ⟨gb316, 0, none⟩ = some (.int .i64 0) := (blk_cell BK316.out 0).trans rfl; have hcz18_1 : w17.cell? ⟨gb316, 1, none⟩ = some (.int .i64 0) := (blk_cell BK316.out 1).trans rfl; have hcz18_2 : w17.cell? ⟨gb316, 2, none⟩ = some (.slice none 0 0) := (blk_cell BK316.out 2).trans rfl; have hcz18_3 : w17.cell? ⟨gb316, 3, none⟩ = some (.slice none 0 0) := (blk_cell BK316.out 3).trans rfl; have hcz18_4 : w17.cell? ⟨gb316, 4, none⟩ = some (.slice none 0 0) := (blk_cell BK316.out 4).trans rfl; have hcz18_5 : w17.cell? ⟨gb316, 5, none⟩ = some (.int .i64 0) := (blk_cell BK316.out 5).trans rfl; have hcz18_6 : w17.cell? ⟨gb316, 6, none⟩ = some (.int .i64 0) := (blk_cell BK316.out 6).trans rfl; have hcz18_7 : w17.cell? ⟨gb316, 7, none⟩ = some (.int .i64 0) := (blk_cell BK316.out 7).trans rfl; have hcz18_8 : w17.cell? ⟨gb316, 8, none⟩ = some (.int .i64 0) := (blk_cell BK316.out 8).trans rfl; have hcz18_9 : w17.cell? ⟨gb316, 9, none⟩ = some (.slice none 0 0) := (blk_cell BK316.out 9).trans rfl; have hcz18_10 : w17.cell? ⟨gb316, 10, none⟩ = some (.int .i64 0) := (blk_cell BK316.out 10).trans rfl; have hcz18_11 : w17.cell? ⟨gb316, 11, none⟩ = some (.bool false) := (blk_cell BK316.out 11).trans rfl; have hfz18_0 := blk_frozen BK316.out 0; have hfz18_1 := blk_frozen BK316.out 1; have hfz18_2 := blk_frozen BK316.out 2; have hfz18_3 := blk_frozen BK316.out 3; have hfz18_4 := blk_frozen BK316.out 4; have hfz18_5 := blk_frozen BK316.out 5; have hfz18_6 := blk_frozen BK316.out 6; have hfz18_7 := blk_frozen BK316.out 7; have hfz18_8 := blk_frozen BK316.out 8; have hfz18_9 := blk_frozen BK316.out 9; have hfz18_10 := blk_frozen BK316.out 10; have hfz18_11 := blk_frozen BK316.out 11))
                    go_roundg k1
                    case measure => have := HK1.out; omega
                    case rel => exact ⟨(wrap64 (x3_1 + 1)), (by first | rfl | (simp; done) | (simp [*]; done)), H', ⟨by have := HK1.out; omega⟩, ⟨by repeat (first | (with_reducible first | exact HB.out | apply below_alloc | apply pw_below_drewN | apply below_drew1 | refine below_set ?_ GE316.out) | exact HB.out)⟩⟩
          · rw [if_neg c4] at H
            have c4b0 : decide (20000 < (((rd_T68 l0 x3_1).f2).length : Int)) = false := decide_eq_false c4
            have c4b1 : decide (20000 < ((rd_T68 l0 x3_1).f2).length) = false := decide_eq_false (by omega)
            clear c4
            by_cases c19 : (((rd_T68 l0 x3_1).f3).length : Int) > 100
            · rw [if_pos c19] at H
              have c19b0 : decide (100 < (((rd_T68 l0 x3_1).f3).length : Int)) = true := decide_eq_true c19
              have c19b1 : decide (100 < ((rd_T68 l0 x3_1).f3).length) = true := decide_eq_true (by omega)
              clear c19
              obtain rfl := Option.some.inj H
              have p315 : 0 ≤ (x3_1 : Int) := of_decide_eq_true (by first | (with_reducible assumption) | assumption)
              have q315 : x3_1 < (l0.length : Int) := of_decide_eq_true (by first | (with_reducible assumption) | assumption)
              obtain ⟨ad315, A315_2, c315_2, A315_3, c315_3, A315_4, c315_4, A315_9, c315_9, e315, hx315_0, hx315_1, hx315_2, hx315_3, hx315_4, hx315_5, hx315_6, hx315_7, hx315_8, hx315_9, hx315_10, hx315_11, hl315_2, hi315_2, hl315_3, hi315_3, hl315_4, hi315_4, hl315_9, hi315_9⟩ := at_T68 HR0.out x3_1 p315 q315
              cases e315
              replace hx315_0 := (HB.out.cell (World.block_lt_of_cell? w _ hx315_0)).trans hx315_0
              replace hx315_1 := (HB.out.cell (World.block_lt_of_cell? w _ hx315_1)).trans hx315_1
              replace hx315_2 := (HB.out.cell (World.block_lt_of_cell? w _ hx315_2)).trans hx315_2
              replace hx315_3 := (HB.out.cell (World.block_lt_of_cell? w _ hx315_3)).trans hx315_3
              replace hx315_4 := (HB.out.cell (World.block_lt_of_cell? w _ hx315_4)).trans hx315_4
              replace hx315_5 := (HB.out.cell (World.block_lt_of_cell? w _ hx315_5)).trans hx315_5
              replace hx315_6 := (HB.out.cell (World.block_lt_of_cell? w _ hx315_6)).trans hx315_6
              replace hx315_7 := (HB.out.cell (World.block_lt_of_cell? w _ hx315_7)).trans hx315_7
              replace hx315_8 := (HB.out.cell (World.block_lt_of_cell? w _ hx315_8)).trans hx315_8
              replace hx315_9 := (HB.out.cell (World.block_lt_of_cell? w _ hx315_9)).trans hx315_9
              replace hx315_10 := (HB.out.cell (World.block_lt_of_cell? w _ hx315_10)).trans hx315_10
              replace hx315_11 := (HB.out.cell (World.block_lt_of_cell? w _ hx315_11)).trans hx315_11
              have HR315_2 := Aside0.mk hi315_2
              have HC315_2 := Aside0.mk hl315_2
              clear hi315_2 hl315_2
              have HR315_3 := Aside0.mk hi315_3
              have HC315_3 := Aside0.mk hl315_3
              clear hi315_3 hl315_3
              have HR315_4 := Aside0.mk hi315_4
              have HC315_4 := Aside0.mk hl315_4
              clear hi315_4 hl315_4
              have HR315_9 := Aside0.mk hi315_9
              have HC315_9 := Aside0.mk hl315_9
              clear hi315_9 hl315_9
              replace p315 := eq_true p315
              replace q315 := eq_true q315
              go_wp2_with (first | ((with_reducible refine gate_dst (N := 4) rfl ?_); (try (refine gate_guard (by rfl) ?_; dsimp only)); refine box_event ?hg (N := 4) ?hd (cs := #[.int .i64 0, .int .i64 0, .slice none 0 0, .slice none 0 0, .slice none 0 0, .int .i64 0, .int .i64 0, .int .i64 0, .int .i64 0, .slice none 0 0, .int .i64 0, .bool false]) (t := 68) ?hr ?_; (case hd => rfl); (case hg => rfl); (case hr => first | (go_simp; done) | (go_simp; rfl)); intro gb316 hg w20 hbox hb; have n0_ := Aside0.mk (below_step (by repeat (first | (with_reducible first | exact HB.out | apply below_alloc | apply pw_below_drewN | apply below_drew1) | exact HB.out)) hb); have n1_ := Aside0.mk (hbox); have n2_ := Aside0.mk ((by rw [hg]; exact (below_size (by repeat (first | (with_reducible first | exact HB.out | apply below_alloc | apply pw_below_drewN | apply below_drew1) | exact HB.out))) : w.heap.size ≤ gb316)); have n3_ := Aside0.mk ((by rw [hg]; exact (below_size (by repeat (first | (with_reducible first | exact HB.out | apply below_alloc | apply pw_below_drewN | apply below_drew1) | exact HB.out))) : w.heap.size ≤ gb316)); clear HB; have HB := n0_; have BK316 := n1_; have GW316 := n2_; have GE316 := n3_; clear n0_ n1_ n2_ n3_; clear hb hbox hg; have hcz21_0 : w20.cell? ⟨gb316, 0, none⟩ = some (.int .i64 0) := (blk_cell BK316.out 0).trans rfl; have hcz21_1 : w20.cell? ⟨gb316, 1, none⟩ = some (.int .i64 0) := (blk_cell BK316.out 1).trans rfl; have hcz21_2 : w20.cell? ⟨gb316, 2, none⟩ = some (.slice none 0 0) := (blk_cell BK316.out 2).trans rfl; have hcz21_3 : w20.cell? ⟨gb316, 3, none⟩ = some (.slice none 0 0) := (blk_cell BK316.out 3).trans rfl; have hcz21_4 : w20.cell? ⟨gb316, 4, none⟩ = some (.slice none 0 0) := (blk_cell BK316.out 4).trans rfl; have hcz21_5 : w20.cell? ⟨gb316, 5, none⟩ = some (.int .i64 0) := (blk_cell BK316.out 5).trans rfl; have hcz21_6 : w20.cell? ⟨gb316, 6, none⟩ = some (.int .i64 0) := (blk_cell BK316.out 6).trans rfl; have hcz21_7 : w20.cell? ⟨gb316, 7, none⟩ = some (.int .i64 0) := (blk_cell BK316.out 7).trans rfl; have hcz21_8 : w20.cell? ⟨gb316, 8, none⟩ = some (.int .i64 0) := (blk_cell BK316.out 8).trans rfl; have hcz21_9 : w20.cell? ⟨gb316, 9, none⟩ = some (.slice none 0 0) := (blk_cell BK316.out 9).trans rfl; have hcz21_10 : w20.cell? ⟨gb316, 10, none⟩ = some (.int .i64 0) := (blk_cell BK316.out 10).trans rfl; have hcz21_11 : w20.cell? ⟨gb316, 11, none⟩ = some (.bool false) := (blk_cell BK316.out 11).trans rfl; have hfz21_0 := blk_frozen BK316.out 0; have hfz21_1 := blk_frozen BK316.out 1; have hfz21_2 := blk_frozen BK316.out 2; have hfz21_3 := blk_frozen BK316.out 3; have hfz21_4 := blk_frozen BK316.out 4; have hfz21_5 := blk_frozen BK316.out 5; have hfz21_6 := blk_frozen BK316.out 6; have hfz21_7 := blk_frozen BK316.out 7; have hfz21_8 := blk_frozen BK316.out 8; have hfz21_9 := blk_frozen BK316.out 9; have hfz21_10 := blk_frozen BK316.out 10; have hfz21_11 := blk_frozen BK316.out 11))
              go_ret
              exact ⟨by first | rfl | (simp [errW_none, errW_some] <;> rfl) | (simp [*, errW_none, errW_some] <;> rfl), by repeat (first | (with_reducible first | exact HB.out | apply below_alloc | apply pw_below_drewN | apply below_drew1 | refine below_set ?_ GE316.out) | exact HB.out)⟩
            · rw [if_neg c19] at H
              have c19b0 : decide (100 < (((rd_T68 l0 x3_1).f3).length : Int)) = false := decide_eq_false c19
              have c19b1 : decide (100 < ((rd_T68 l0 x3_1).f3).length) = false := decide_eq_false (by omega)
              clear c19
              by_cases c22 : (((rd_T68 l0 x3_1).f4).length : Int) > 100
              · rw [if_pos c22] at H
                have c22b0 : decide (100 < (((rd_T68 l0 x3_1).f4).length : Int)) = true := decide_eq_true c22
                have c22b1 : decide (100 < ((rd_T68 l0 x3_1).f4).length) = true := decide_eq_true (by omega)
                clear c22
                obtain rfl := Option.some.inj H
                have p315 : 0 ≤ (x3_1 : Int) := of_decide_eq_true (by first | (with_reducible assumption) | assumption)
                have q315 : x3_1 < (l0.length : Int) := of_decide_eq_true (by first | (with_reducible assumption) | assumption)
                obtain ⟨ad315, A315_2, c315_2, A315_3, c315_3, A315_4, c315_4, A315_9, c315_9, e315, hx315_0, hx315_1, hx315_2, hx315_3, hx315_4, hx315_5, hx315_6, hx315_7, hx315_8, hx315_9, hx315_10, hx315_11, hl315_2, hi315_2, hl315_3, hi315_3, hl315_4, hi315_4, hl315_9, hi315_9⟩ := at_T68 HR0.out x3_1 p315 q315
                cases e315
                replace hx315_0 := (HB.out.cell (World.block_lt_of_cell? w _ hx315_0)).trans hx315_0
                replace hx315_1 := (HB.out.cell (World.block_lt_of_cell? w _ hx315_1)).trans hx315_1
                replace hx315_2 := (HB.out.cell (World.block_lt_of_cell? w _ hx315_2)).trans hx315_2
                replace hx315_3 := (HB.out.cell (World.block_lt_of_cell? w _ hx315_3)).trans hx315_3
                replace hx315_4 := (HB.out.cell (World.block_lt_of_cell? w _ hx315_4)).trans hx315_4
                replace hx315_5 := (HB.out.cell (World.block_lt_of_cell? w _ hx315_5)).trans hx315_5
                replace hx315_6 := (HB.out.cell (World.block_lt_of_cell? w _ hx315_6)).trans hx315_6
                replace hx315_7 := (HB.out.cell (World.block_lt_of_cell? w _ hx315_7)).trans hx315_7
                replace hx315_8 := (HB.out.cell (World.block_lt_of_cell? w _ hx315_8)).trans hx315_8
                replace hx315_9 := (HB.out.cell (World.block_lt_of_cell? w _ hx315_9)).trans hx315_9
                replace hx315_10 := (HB.out.cell (World.block_lt_of_cell? w _ hx315_10)).trans hx315_10
                replace hx315_11 := (HB.out.cell (World.block_lt_of_cell? w _ hx315_11)).trans hx315_11
                have HR315_2 := Aside0.mk hi315_2
                have HC315_2 := Aside0.mk hl315_2
                clear hi315_2 hl315_2
                have HR315_3 := Aside0.mk hi315_3
                have HC315_3 := Aside0.mk hl315_3
                clear hi315_3 hl315_3
                have HR315_4 := Aside0.mk hi315_4
                have HC315_4 := Aside0.mk hl315_4
                clear hi315_4 hl315_4
                have HR315_9 := Aside0.mk hi315_9
                have HC315_9 := Aside0.mk hl315_9
                clear hi315_9 hl315_9
                replace p315 := eq_true p315
                replace q315 := eq_true q315
                go_wp2_with (first | ((with_reducible refine gate_dst (N := 4) rfl ?_); (try (refine gate_guard (by rfl) ?_; dsimp only)); refine box_event ?hg (N := 4) ?hd (cs := #[.int .i64 0, .int .i64 0, .slice none 0 0, .slice none 0 0, .slice none 0 0, .int .i64 0, .int .i64 0, .int .i64 0, .int .i64 0, .slice none 0 0, .int .i64 0, .bool false]) (t := 68) ?hr ?_; (case hd => rfl); (case hg => rfl); (case hr => first | (go_simp; done) | (go_simp; rfl)); intro gb316 hg w23 hbox hb; have n0_ := Aside0.mk (below_step (by repeat (first | (with_reducible first | exact HB.out | apply below_alloc | apply pw_below_drewN | apply below_drew1) | exact HB.out)) hb); have n1_ := Aside0.mk (hbox); have n2_ := Aside0.mk ((by rw [hg]; exact (below_size (by repeat (first | (with_reducible first | exact HB.out | apply below_alloc | apply pw_below_drewN | apply below_drew1) | exact HB.out))) : w.heap.size ≤ gb316)); have n3_ := Aside0.mk ((by rw [hg]; exact (below_size (by repeat (first | (with_reducible first | exact HB.out | apply below_alloc | apply pw_below_drewN | apply below_drew1) | exact HB.out))) : w.heap.size ≤ gb316)); clear HB; have HB := n0_; have BK316 := n1_; have GW316 := n2_; have GE316 := n3_; clear n0_ n1_ n2_ n3_; clear hb hbox hg; have hcz24_0 : w23.cell? ⟨gb316, 0, none⟩ = some (.int .i64 0) := (blk_cell BK316.out 0).trans rfl; have hcz24_1 : w23.cell? ⟨gb316, 1, none⟩ = some (.int .i64 0) := (blk_cell BK316.out 1).trans rfl; have hcz24_2 : w23.cell? ⟨gb316, 2, none⟩ = some (.slice none 0 0) := (blk_cell BK316.out 2).trans rfl; have hcz24_3 : w23.cell? ⟨gb316, 3, none⟩ = some (.slice none 0 0) := (blk_cell BK316.out 3).trans rfl; have hcz24_4 : w23.cell? ⟨gb316, 4, none⟩ = some (.slice none 0 0) := (blk_cell BK316.out 4).trans rfl; have hcz24_5 : w23.cell? ⟨gb316, 5, none⟩ = some (.int .i64 0) := (blk_cell BK316.out 5).trans rfl; have hcz24_6 : w23.cell? ⟨gb316, 6, none⟩ = some (.int .i64 0) := (blk_cell BK316.out 6).trans rfl; have hcz24_7 : w23.cell? ⟨gb316, 7, none⟩ = some (.int .i64 0) := (blk_cell BK316.out 7).trans rfl; have hcz24_8 : w23.cell? ⟨gb316, 8, none⟩ = some (.int .i64 0) := (blk_cell BK316.out 8).trans rfl; have hcz24_9 : w23.cell? ⟨gb316, 9, none⟩ = some (.slice none 0 0) := (blk_cell BK316.out 9).trans rfl; have hcz24_10 : w23.cell? ⟨gb316, 10, none⟩ = some (.int .i64 0) := (blk_cell BK316.out 10).trans rfl; have hcz24_11 : w23.cell? ⟨gb316, 11, none⟩ = some (.bool false) := (blk_cell BK316.out 11).trans rfl; have hfz24_0 := blk_frozen BK316.out 0; have hfz24_1 := blk_frozen BK316.out 1; have hfz24_2 := blk_frozen BK316.out 2; have hfz24_3 := blk_frozen BK316.out 3; have hfz24_4 := blk_frozen BK316.out 4; have hfz24_5 := blk_frozen BK316.out 5; have hfz24_6 := blk_frozen BK316.out 6; have hfz24_7 := blk_frozen BK316.out 7; have hfz24_8 := blk_frozen BK316.out 8; have hfz24_9 := blk_frozen BK316.out 9; have hfz24_10 := blk_frozen BK316.out 10; have hfz24_11 := blk_frozen BK316.out 11))
                go_ret
                exact ⟨by first | rfl | (simp [errW_none, errW_some] <;> rfl) | (simp [*, errW_none, errW_some] <;> rfl), by repeat (first | (with_reducible first | exact HB.out | apply below_alloc | apply pw_below_drewN | apply below_drew1 | refine below_set ?_ GE316.out) | exact HB.out)⟩
              · rw [if_neg c22] at H
                have c22b0 : decide (100 < (((rd_T68 l0 x3_1).f4).length : Int)) = false := decide_eq_false c22
                have c22b1 : decide (100 < ((rd_T68 l0 x3_1).f4).length) = false := decide_eq_false (by omega)
                clear c22
                by_cases c25 : (((rd_T68 l0 x3_1).f9).length : Int) > 100
                · rw [if_pos c25] at H
                  have c25b0 : decide (100 < (((rd_T68 l0 x3_1).f9).length : Int)) = true := decide_eq_true c25
                  have c25b1 : decide (100 < ((rd_T68 l0 x3_1).f9).length) = true := decide_eq_true (by omega)
                  clear c25
                  obtain rfl := Option.some.inj H
                  have p315 : 0 ≤ (x3_1 : Int) := of_decide_eq_true (by first | (with_reducible assumption) | assumption)
                  have q315 : x3_1 < (l0.length : Int) := of_decide_eq_true (by first | (with_reducible assumption) | assumption)
                  obtain ⟨ad315, A315_2, c315_2, A315_3, c315_3, A315_4, c315_4, A315_9, c315_9, e315, hx315_0, hx315_1, hx315_2, hx315_3, hx315_4, hx315_5, hx315_6, hx315_7, hx315_8, hx315_9, hx315_10, hx315_11, hl315_2, hi315_2, hl315_3, hi315_3, hl315_4, hi315_4, hl315_9, hi315_9⟩ := at_T68 HR0.out x3_1 p315 q315
                  cases e315
                  replace hx315_0 := (HB.out.cell (World.block_lt_of_cell? w _ hx315_0)).trans hx315_0
                  replace hx315_1 := (HB.out.cell (World.block_lt_of_cell? w _ hx315_1)).trans hx315_1
                  replace hx315_2 := (HB.out.cell (World.block_lt_of_cell? w _ hx315_2)).trans hx315_2
                  replace hx315_3 := (HB.out.cell (World.block_lt_of_cell? w _ hx315_3)).trans hx315_3
                  replace hx315_4 := (HB.out.cell (World.block_lt_of_cell? w _ hx315_4)).trans hx315_4
                  replace hx315_5 := (HB.out.cell (World.block_lt_of_cell? w _ hx315_5)).trans hx315_5
                  replace hx315_6 := (HB.out.cell (World.block_lt_of_cell? w _ hx315_6)).trans hx315_6
                  replace hx315_7 := (HB.out.cell (World.block_lt_of_cell? w _ hx315_7)).trans hx315_7
                  replace hx315_8 := (HB.out.cell (World.block_lt_of_cell? w _ hx315_8)).trans hx315_8
                  replace hx315_9 := (HB.out.cell (World.block_lt_of_cell? w _ hx315_9)).trans hx315_9
                  replace hx315_10 := (HB.out.cell (World.block_lt_of_cell? w _ hx315_10)).trans hx315_10
                  replace hx315_11 := (HB.out.cell (World.block_lt_of_cell? w _ hx315_11)).trans hx315_11
                  have HR315_2 := Aside0.mk hi315_2
                  have HC315_2 := Aside0.mk hl315_2
                  clear hi315_2 hl315_2
                  have HR315_3 := Aside0.mk hi315_3
                  have HC315_3 := Aside0.mk hl315_3
                  clear hi315_3 hl315_3
                  have HR315_4 := Aside0.mk hi315_4
                  have HC315_4 := Aside0.mk hl315_4
                  clear hi315_4 hl315_4
                  have HR315_9 := Aside0.mk hi315_9
                  have HC315_9 := Aside0.mk hl315_9
                  clear hi315_9 hl315_9
                  replace p315 := eq_true p315
                  replace q315 := eq_true q315
                  go_wp2_with (first | ((with_reducible refine gate_dst (N := 4) rfl ?_); (try (refine gate_guard (by rfl) ?_; dsimp only)); refine box_event ?hg (N := 4) ?hd (cs := #[.int .i64 0, .int .i64 0, .slice none 0 0, .slice none 0 0, .slice none 0 0, .int .i64 0, .int .i64 0, .int .i64 0, .int .i64 0, .slice none 0 0, .int .i64 0, .bool false]) (t := 68) ?hr ?_; (case hd => rfl); (case hg => rfl); (case hr => first | (go_simp; done) | (go_simp; rfl)); intro gb316 hg w26 hbox hb; have n0_ := Aside0.mk (below_step (by repeat (first | (with_reducible first | exact HB.out | apply below_alloc | apply pw_below_drewN | apply below_drew1) | exact HB.out)) hb); have n1_ := Aside0.mk (hbox); have n2_ := Aside0.mk ((by rw [hg]; exact (below_size (by repeat (first | (with_reducible first | exact HB.out | apply below_alloc | apply pw_below_drewN | apply below_drew1) | exact HB.out))) : w.heap.size ≤ gb316)); have n3_ := Aside0.mk ((by rw [hg]; exact (below_size (by repeat (first | (with_reducible first | exact HB.out | apply below_alloc | apply pw_below_drewN | apply below_drew1) | exact HB.out))) : w.heap.size ≤ gb316)); clear HB; have HB := n0_; have BK316 := n1_; have GW316 := n2_; have GE316 := n3_; clear n0_ n1_ n2_ n3_; clear hb hbox hg; have hcz27_0 : w26.cell? ⟨gb316, 0, none⟩ = some (.int .i64 0) := (blk_cell BK316.out 0).trans rfl; have hcz27_1 : w26.cell? ⟨gb316, 1, none⟩ = some (.int .i64 0) := (blk_cell BK316.out 1).trans rfl; have hcz27_2 : w26.cell? ⟨gb316, 2, none⟩ = some (.slice none 0 0) := (blk_cell BK316.out 2).trans rfl; have hcz27_3 : w26.cell? ⟨gb316, 3, none⟩ = some (.slice none 0 0) := (blk_cell BK316.out 3).trans rfl; have hcz27_4 : w26.cell? ⟨gb316, 4, none⟩ = some (.slice none 0 0) := (blk_cell BK316.out 4).trans rfl; have hcz27_5 : w26.cell? ⟨gb316, 5, none⟩ = some (.int .i64 0) := (blk_cell BK316.out 5).trans rfl; have hcz27_6 : w26.cell? ⟨gb316, 6, none⟩ = some (.int .i64 0) := (blk_cell BK316.out 6).trans rfl; have hcz27_7 : w26.cell? ⟨gb316, 7, none⟩ = some (.int .i64 0) := (blk_cell BK316.out 7).trans rfl; have hcz27_8 : w26.cell? ⟨gb316, 8, none⟩ = some (.int .i64 0) := (blk_cell BK316.out 8).trans rfl; have hcz27_9 : w26.cell? ⟨gb316, 9, none⟩ = some (.slice none 0 0) := (blk_cell BK316.out 9).trans rfl; have hcz27_10 : w26.cell? ⟨gb316, 10, none⟩ = some (.int .i64 0) := (blk_cell BK316.out 10).trans rfl; have hcz27_11 : w26.cell? ⟨gb316, 11, none⟩ = some (.bool false) := (blk_cell BK316.out 11).trans rfl; have hfz27_0 := blk_frozen BK316.out 0; have hfz27_1 := blk_frozen BK316.out 1; have hfz27_2 := blk_frozen BK316.out 2; have hfz27_3 := blk_frozen BK316.out 3; have hfz27_4 := blk_frozen BK316.out 4; have hfz27_5 := blk_frozen BK316.out 5; have hfz27_6 := blk_frozen BK316.out 6; have hfz27_7 := blk_frozen BK316.out 7; have hfz27_8 := blk_frozen BK316.out 8; have hfz27_9 := blk_frozen BK316.out 9; have hfz27_10 := blk_frozen BK316.out 10; have hfz27_11 := blk_frozen BK316.out 11))
                  go_ret
                  exact ⟨by first | rfl | (simp [errW_none, errW_some] <;> rfl) | (simp [*, errW_none, errW_some] <;> rfl), by repeat (first | (with_reducible first | exact HB.out | apply below_alloc | apply pw_below_drewN | apply below_drew1 | refine below_set ?_ GE316.out) | exact HB.out)⟩
                · rw [if_neg c25] at H
                  have c25b0 : decide (100 < (((rd_T68 l0 x3_1).f9).length : Int)) = false := decide_eq_false c25
                  have c25b1 : decide (100 < ((rd_T68 l0 x3_1).f9).length) = false := decide_eq_false (by omega)
                  clear c25
                  have H' := Aside0.mk H
                  clear H
                  have p315 : 0 ≤ (x3_1 : Int) := of_decide_eq_true (by first | (with_reducible assumption) | assumption)
                  have q315 : x3_1 < (l0.length : Int) := of_decide_eq_true (by first | (with_reducible assumption) | assumption)
                  obtain ⟨ad315, A315_2, c315_2, A315_3, c315_3, A315_4, c315_4, A315_9, c315_9, e315, hx315_0, hx315_1, hx315_2, hx315_3, hx315_4, hx315_5, hx315_6, hx315_7, hx315_8, hx315_9, hx315_10, hx315_11, hl315_2, hi315_2, hl315_3, hi315_3, hl315_4, hi315_4, hl315_9, hi315_9⟩ := at_T68 HR0.out x3_1 p315 q315
                  cases e315
                  replace hx315_0 := (HB.out.cell (World.block_lt_of_cell? w _ hx315_0)).trans hx315_0
                  replace hx315_1 := (HB.out.cell (World.block_lt_of_cell? w _ hx315_1)).trans hx315_1
                  replace hx315_2 := (HB.out.cell (World.block_lt_of_cell? w _ hx315_2)).trans hx315_2
                  replace hx315_3 := (HB.out.cell (World.block_lt_of_cell? w _ hx315_3)).trans hx315_3
                  replace hx315_4 := (HB.out.cell (World.block_lt_of_cell? w _ hx315_4)).trans hx315_4
                  replace hx315_5 := (HB.out.cell (World.block_lt_of_cell? w _ hx315_5)).trans hx315_5
                  replace hx315_6 := (HB.out.cell (World.block_lt_of_cell? w _ hx315_6)).trans hx315_6
                  replace hx315_7 := (HB.out.cell (World.block_lt_of_cell? w _ hx315_7)).trans hx315_7
                  replace hx315_8 := (HB.out.cell (World.block_lt_of_cell? w _ hx315_8)).trans hx315_8
                  replace hx315_9 := (HB.out.cell (World.block_lt_of_cell? w _ hx315_9)).trans hx315_9
                  replace hx315_10 := (HB.out.cell (World.block_lt_of_cell? w _ hx315_10)).trans hx315_10
                  replace hx315_11 := (HB.out.cell (World.block_lt_of_cell? w _ hx315_11)).trans hx315_11
                  have HR315_2 := Aside0.mk hi315_2
                  have HC315_2 := Aside0.mk hl315_2
                  clear hi315_2 hl315_2
                  have HR315_3 := Aside0.mk hi315_3
                  have HC315_3 := Aside0.mk hl315_3
                  clear hi315_3 hl315_3
                  have HR315_4 := Aside0.mk hi315_4
                  have HC315_4 := Aside0.mk hl315_4
                  clear hi315_4 hl315_4
                  have HR315_9 := Aside0.mk hi315_9
                  have HC315_9 := Aside0.mk hl315_9
                  clear hi315_9 hl315_9
                  replace p315 := eq_true p315
                  replace q315 := eq_true q315
                  go_wp2_with (first | ((with_reducible refine gate_dst (N := 4) rfl ?_); (try (refine gate_guard (by rfl) ?_; dsimp only)); refine box_event ?hg (N := 4) ?hd (cs := #[.int .i64 0, .int .i64 0, .slice none 0 0, .slice none 0 0, .slice none 0 0, .int .i64 0, .int .i64 0, .int .i64 0, .int .i64 0, .slice none 0 0, .int .i64 0, .bool false]) (t := 68) ?hr ?_; (case hd => rfl); (case hg => rfl); (case hr => first | (go_simp; done) | (go_simp; rfl)); intro gb316 hg w28 hbox hb; have n0_ := Aside0.mk (below_step (by repeat (first | (with_reducible first | exact HB.out | apply below_alloc | apply pw_below_drewN | apply below_drew1) | exact HB.out)) hb); have n1_ := Aside0.mk (hbox); have n2_ := Aside0.mk ((by rw [hg]; exact (below_size (by repeat (first | (with_reducible first | exact HB.out | apply below_alloc | apply pw_below_drewN | apply below_drew1) | exact HB.out))) : w.heap.size ≤ gb316)); have n3_ := Aside0.mk ((by rw [hg]; exact (below_size (by repeat (first | (with_reducible first | exact HB.out | apply below_alloc | apply pw_below_drewN | apply below_drew1) | exact HB.out))) : w.heap.size ≤ gb316)); clear HB; have HB := n0_; have BK316 := n1_; have GW316 := n2_; have GE316 := n3_; clear n0_ n1_ n2_ n3_; clear hb hbox hg; have hcz29_0 : w28.cell? ⟨gb316, 0, none⟩ = some (.int .i64 0) := (blk_cell BK316.out 0).trans rfl; have hcz29_1 : w28.cell? ⟨gb316, 1, none⟩ = some (.int .i64 0) := (blk_cell BK316.out 1).trans rfl; have hcz29_2 : w28.cell? ⟨gb316, 2, none⟩ = some (.slice none 0 0) := (blk_cell BK316.out 2).trans rfl; have hcz29_3 : w28.cell? ⟨gb316, 3, none⟩ = some (.slice none 0 0) := (blk_cell BK316.out 3).trans rfl; have hcz29_4 : w28.cell? ⟨gb316, 4, none⟩ = some (.slice none 0 0) := (blk_cell BK316.out 4).trans rfl; have hcz29_5 : w28.cell? ⟨gb316, 5, none⟩ = some (.int .i64 0) := (blk_cell BK316.out 5).trans rfl; have hcz29_6 : w28.cell? ⟨gb316, 6, none⟩ = some (.int .i64 0) := (blk_cell BK316.out 6).trans rfl; have hcz29_7 : w28.cell? ⟨gb316, 7, none⟩ = some (.int .i64 0) := (blk_cell BK316.out 7).trans rfl; have hcz29_8 : w28.cell? ⟨gb316, 8, none⟩ = some (.int .i64 0) := (blk_cell BK316.out 8).trans rfl; have hcz29_9 : w28.cell? ⟨gb316, 9, none⟩ = some (.slice none 0 0) := (blk_cell BK316.out 9).trans rfl; have hcz29_10 : w28.cell? ⟨gb316, 10, none⟩ = some (.int .i64 0) := (blk_cell BK316.out 10).trans rfl; have hcz29_11 : w28.cell? ⟨gb316, 11, none⟩ = some (.bool false) := (blk_cell BK316.out 11).trans rfl; have hfz29_0 := blk_frozen BK316.out 0; have hfz29_1 := blk_frozen BK316.out 1; have hfz29_2 := blk_frozen BK316.out 2; have hfz29_3 := blk_frozen BK316.out 3; have hfz29_4 := blk_frozen BK316.out 4; have hfz29_5 := blk_frozen BK316.out 5; have hfz29_6 := blk_frozen BK316.out 6; have hfz29_7 := blk_frozen BK316.out 7; have hfz29_8 := blk_frozen BK316.out 8; have hfz29_9 := blk_frozen BK316.out 9; have hfz29_10 := blk_frozen BK316.out 10; have hfz29_11 := blk_frozen BK316.out 11))
                  go_roundg k1
                  case measure => have := HK1.out; omega
                  case rel => exact ⟨(wrap64 (x3_1 + 1)), (by first | rfl | (simp; done) | (simp [*]; done)), H', ⟨by have := HK1.out; omega⟩, ⟨by repeat (first | (with_reducible first | exact HB.out | apply below_alloc | apply pw_below_drewN | apply below_drew1 | refine below_set ?_ GE316.out) | exact HB.out)⟩⟩
        · rw [if_neg c3] at H
          exact absurd H (by simp)
      · rw [if_neg c2] at H
        have c2b0 : decide (x3_1 < (l0.length : Int)) = false := decide_eq_false c2
        clear c2
        obtain rfl := Option.some.inj H
        go_wp2
        go_ret
        exact ⟨by first | rfl | (simp [errW_none, errW_some] <;> rfl) | (simp [*, errW_none, errW_some] <;> rfl), by repeat (first | (with_reducible first | exact HB.out | apply below_alloc | apply pw_below_drewN | apply below_drew1) | exact HB.out)⟩
end Go.Proofs.YtphkionjjhhhlaaGreat.Q
end
section
namespace Go.Proofs.YtphkionjjhhhlaaGreat.Q
open Go.RowKit Go.Proofs.YtphkionjjhhhlaaGreatW.PrintWords Go.Proofs.YtphkionjjhhhlaaGreatW.PrintLast Go.Proofs.YtphkionjjhhhlaaGreatW.PrintMore
def item_Needs.l0 : Nat → List (S68) → List Int → List Int → Int → Int → Option (List Int × Int)
  | 0, _, _, _, _, _ => none
  | k + 1, x0, x8, x22, x23, x24 => if x24 < x23 then (if 0 ≤ x24 then (if x24 < (x22.length : Int) then (if 0 ≤ (rd x22 x24) then (if (rd x22 x24) < (x0.length : Int) then (if x8.length < 17592186044416 then (item_Needs.l0 k x0 (x8 ++ [(rd_T68 x0 (rd x22 x24)).f0]) x22 x23 (wrap64 (x24 + 1))) else (none)) else (none)) else (none)) else (none)) else (none)) else (some (x8, 0))
def item_Needs.f (k : Nat) (l0 : List (S68)) (a1 : Int) : Option (List Int × Int) := (item_ready.f l0 a1).bind fun bt365 => (if bt365.2 = 0 then ((item_order.f l0 bt365.1).bind fun t367 => (item_Needs.l0 k l0 ([] : List Int) t367 (t367.length : Int) 0)) else (some (([] : List Int), bt365.2)))
set_option maxHeartbeats 8000000 in
set_option maxRecDepth 100000 in
theorem item_Needs.calls (k : Nat) (A0 : Option Addr) (c0 : Nat) (l0 : List (S68)) (a1 : Int) (r1 : List Int) (r2 : Int) (w : World) (hr0 : Kd.C k68 w A0 l0.length l0) (hc0 : l0.length ≤ c0) (h : item_Needs.f k l0 a1 = some (r1, r2)) :
    Calls Tryz.prog 21 #[.slice A0 l0.length c0, .int .i64 a1] w fun e w' => ∃ v0_ : Value, e = .returned (.tuple #[v0_, .int .i64 r2]) ∧ Kd.R (Kd.int .i64) 3 w' w.heap.size (fun _ => True) v0_ r1 ∧ Below w.heap.size w w' := by
  have HR0 := Aside0.mk hr0
  have HC0 := Aside0.mk hc0
  clear hr0 hc0
  have HB := Aside0.mk (Below.refl w.heap.size w)
  have H : ((item_ready.f l0 a1).bind fun bt365 => (if bt365.2 = 0 then ((item_order.f l0 bt365.1).bind fun t367 => (item_Needs.l0 k l0 ([] : List Int) t367 (t367.length : Int) 0)) else (some (([] : List Int), bt365.2)))) = some (r1, r2) := h
  clear h
  replace H := Option.bind_eq_some_iff.mp H
  obtain ⟨⟨t365, t366⟩, A30, H⟩ := H
  replace H : (if t366 = 0 then ((item_order.f l0 t365).bind fun t367 => (item_Needs.l0 k l0 ([] : List Int) t367 (t367.length : Int) 0)) else (some (([] : List Int), t366))) = some (r1, r2) := H
  have A3 := Aside0.mk A30
  clear A30
  by_cases c4 : t366 = 0
  · rw [if_pos c4] at H
    have c4b0 : (t366 == 0) = true := beq_iff_eq.mpr c4
    have c4b1 : (t366 != 0) = false := bne_eq_false_iff_eq.mpr c4
    clear c4
    replace H := Option.bind_eq_some_iff.mp H
    obtain ⟨t367, A50, H⟩ := H
    replace H : (item_Needs.l0 k l0 ([] : List Int) t367 (t367.length : Int) 0) = some (r1, r2) := H
    have A5 := Aside0.mk A50
    clear A50
    have H' := Aside0.mk H
    clear H
    go_enter Tryz.func21, Tryz.ntmps21
    go_wp2_with (first | ((with_reducible refine gate_callee (f := 63) rfl ?_); refine goesL_ (some 14) rfl rfl Tryz.func63 (by kernel_rfl) rfl #[.slice A0 l0.length c0, .int .i64 a1] rfl (by (try simp only [List.map_toArray, List.map_cons, List.map_nil]); first | done | rfl | (simp only [List.length_drop, List.length_take]; rfl)) ?_; (with_reducible refine (item_ready.calls _ _ l0 a1 t365 t366 _ ?side1 ?side2 A3.out).mono ?_); (case side1 => repeat (first | exact HR0.out | (with_reducible refine Kd.C_alloc ?_ _) | (with_reducible refine Kd.C_drewN ?_ _) | (with_reducible refine Kd.C_drew ?_))); (case side2 => exact HC0.out); rintro e w6 ⟨rfl, hb⟩; refine ⟨_, rfl, ?_⟩; have n0_ := Aside0.mk (below_step (by repeat (first | (with_reducible first | exact HB.out | apply below_alloc | apply pw_below_drewN | apply below_drew1) | exact HB.out)) hb); clear HB; have HB := n0_; clear n0_; (try clear hb); (try clear hb2); (try clear hk); (try clear hi)) | ((with_reducible refine gate_callee (f := 64) rfl ?_); refine goesL_ (some 22) rfl rfl Tryz.func64 (by kernel_rfl) rfl #[.slice A0 l0.length c0, .int .i64 t365] rfl (by (try simp only [List.map_toArray, List.map_cons, List.map_nil]); first | done | rfl | (simp only [List.length_drop, List.length_take]; rfl)) ?_; (with_reducible refine (item_order.calls _ _ l0 t365 t367 _ ?side1 ?side2 A5.out).mono ?_); (case side1 => repeat (first | exact (Kd.C_below HR0.out HB.out) | (with_reducible refine Kd.C_alloc ?_ _) | (with_reducible refine Kd.C_drewN ?_ _) | (with_reducible refine Kd.C_drew ?_))); (case side2 => exact HC0.out); rintro e w7 ⟨v368, rfl, ho0, hb⟩; refine ⟨_, rfl, ?_⟩; have n0_ := Aside0.mk (Kd.R_lower ho0 (below_size (by repeat (first | (with_reducible first | exact HB.out | apply below_alloc | apply pw_below_drewN | apply below_drew1) | exact HB.out)))); have n1_ := Aside0.mk (below_step (by repeat (first | (with_reducible first | exact HB.out | apply below_alloc | apply pw_below_drewN | apply below_drew1) | exact HB.out)) hb); clear HB; have HO369 := n0_; have HB := n1_; clear n0_ n1_; (try clear hb); (try clear hb2); (try clear hk); (try clear hi); (try clear ho0); obtain ⟨Ao8, co8, eo8⟩ := Kd.R_slice HO369.out; subst eo8))
    go_loopg [8, 24] k (fun kq v8 v24 w' => ∃ (x8_1 : List Int) (x24_1 : Int), v24 = .int .i64 x24_1 ∧ Aside0 (item_Needs.l0 kq l0 x8_1 t367 (t367.length : Int) x24_1 = some (r1, r2)) ∧ Aside0 (kq ≤ k) ∧ Aside0 (Kd.R (Kd.int .i64) 3 w' w.heap.size (fun k_ => some k_ ≠ ((.slice Ao8 t367.length co8) : Value).ownBlock) v8 x8_1) ∧ Aside0 (Kd.R (Kd.int .i64) 3 w' w.heap.size (fun k_ => some k_ ≠ (v8 : Value).ownBlock) (.slice Ao8 t367.length co8) t367) ∧ Aside0 (Below w.heap.size w w'))
    case atStart => exact ⟨(([] : List Int)), (0), (by first | rfl | (simp; done) | (simp [*]; done)), H', ⟨Nat.le_refl _⟩, ⟨by first | exact Kd.R_nil _ _ _ _ _ | exact Kd.N_nil _ _ _ _ _ | exact Kd.V_nil _ _ _ _ _ | exact Kd.Q_nil _ _ _ _ _ | exact Kd.S_nil _ _ _ _ _⟩, ⟨by (with_reducible repeat (first | apply Kd.R_alloc | apply Kd.R_drewN | apply Kd.R_drew)); exact Kd.R_mono HO369.out (fun _ hk => (by simp [Value.ownBlock]))⟩, ⟨by repeat (first | (with_reducible first | exact HB.out | apply below_alloc | apply pw_below_drewN | apply below_drew1) | exact HB.out)⟩⟩
    case round =>
      clear H'
      try clear c2
      try clear p2
      try clear c4
      try clear c4b0
      try clear c4b1
      try clear c6
      obtain ⟨x8_1, x24_1, rfl, HA, HK1, HO_8, HO_22, HB⟩ := hrel
      cases gk with
      | zero => exact absurd HA.out (by simp [item_Needs.l0])
      | succ k1 =>
        have H := HA.out
        clear HA
        simp only [item_Needs.l0] at H
        by_cases c9 : x24_1 < (t367.length : Int)
        · rw [if_pos c9] at H
          have c9b0 : decide (x24_1 < (t367.length : Int)) = true := decide_eq_true c9
          clear c9
          by_cases c10 : 0 ≤ x24_1
          · rw [if_pos c10] at H
            have c10b0 : decide (0 ≤ x24_1) = true := decide_eq_true c10
            clear c10
            by_cases c11 : x24_1 < (t367.length : Int)
            · rw [if_pos c11] at H
              have c11b0 : decide (x24_1 < (t367.length : Int)) = true := decide_eq_true c11
              clear c11
              by_cases c12 : 0 ≤ (rd t367 x24_1)
              · rw [if_pos c12] at H
                have c12b0 : decide (0 ≤ (rd t367 x24_1)) = true := decide_eq_true c12
                clear c12
                by_cases c13 : (rd t367 x24_1) < (l0.length : Int)
                · rw [if_pos c13] at H
                  have c13b0 : decide ((rd t367 x24_1) < (l0.length : Int)) = true := decide_eq_true c13
                  clear c13
                  by_cases c14 : x8_1.length < 17592186044416
                  · rw [if_pos c14] at H
                    have LMc14 := Aside0.mk c14
                    clear c14
                    obtain ⟨y372, hy372⟩ : ∃ y_ : List Int, y_ = (x8_1 ++ [(rd_T68 l0 (rd t367 x24_1)).f0]) := ⟨_, rfl⟩
                    replace H : (item_Needs.l0 k1 l0 y372 t367 (t367.length : Int) (wrap64 (x24_1 + 1))) = some (r1, r2) := by first | (rw [hy372]; with_reducible exact H) | (have H2_ := (Option.bind_some _ _).symm.trans H; rw [hy372]; with_reducible exact H2_) | (have H2_ := (Option.bind_some _ _).symm.trans H; with_reducible exact H2_) | with_reducible exact H | (rw [hy372]; exact H) | exact H
                    have Ny372 := Aside0.mk hy372
                    clear hy372
                    have H' := Aside0.mk H
                    clear H
                    have p370 : 0 ≤ (x24_1 : Int) := of_decide_eq_true (by first | (with_reducible assumption) | assumption)
                    have q370 : x24_1 < (t367.length : Int) := of_decide_eq_true (by first | (with_reducible assumption) | assumption)
                    obtain ⟨ad370, e370, hx370_0⟩ := Kd.at_int (Kd.R_reads' HO_22.out).2.2 x24_1 p370 q370
                    cases e370
                    replace p370 := eq_true p370
                    replace q370 := eq_true q370
                    have p371 : 0 ≤ ((rd t367 x24_1) : Int) := of_decide_eq_true (by first | (with_reducible assumption) | assumption)
                    have q371 : (rd t367 x24_1) < (l0.length : Int) := of_decide_eq_true (by first | (with_reducible assumption) | assumption)
                    obtain ⟨ad371, A371_2, c371_2, A371_3, c371_3, A371_4, c371_4, A371_9, c371_9, e371, hx371_0, hx371_1, hx371_2, hx371_3, hx371_4, hx371_5, hx371_6, hx371_7, hx371_8, hx371_9, hx371_10, hx371_11, hl371_2, hi371_2, hl371_3, hi371_3, hl371_4, hi371_4, hl371_9, hi371_9⟩ := at_T68 HR0.out (rd t367 x24_1) p371 q371
                    cases e371
                    replace hx371_0 := (HB.out.cell (World.block_lt_of_cell? w _ hx371_0)).trans hx371_0
                    replace hx371_1 := (HB.out.cell (World.block_lt_of_cell? w _ hx371_1)).trans hx371_1
                    replace hx371_2 := (HB.out.cell (World.block_lt_of_cell? w _ hx371_2)).trans hx371_2
                    replace hx371_3 := (HB.out.cell (World.block_lt_of_cell? w _ hx371_3)).trans hx371_3
                    replace hx371_4 := (HB.out.cell (World.block_lt_of_cell? w _ hx371_4)).trans hx371_4
                    replace hx371_5 := (HB.out.cell (World.block_lt_of_cell? w _ hx371_5)).trans hx371_5
                    replace hx371_6 := (HB.out.cell (World.block_lt_of_cell? w _ hx371_6)).trans hx371_6
                    replace hx371_7 := (HB.out.cell (World.block_lt_of_cell? w _ hx371_7)).trans hx371_7
                    replace hx371_8 := (HB.out.cell (World.block_lt_of_cell? w _ hx371_8)).trans hx371_8
                    replace hx371_9 := (HB.out.cell (World.block_lt_of_cell? w _ hx371_9)).trans hx371_9
                    replace hx371_10 := (HB.out.cell (World.block_lt_of_cell? w _ hx371_10)).trans hx371_10
                    replace hx371_11 := (HB.out.cell (World.block_lt_of_cell? w _ hx371_11)).trans hx371_11
                    have HR371_2 := Aside0.mk hi371_2
                    have HC371_2 := Aside0.mk hl371_2
                    clear hi371_2 hl371_2
                    have HR371_3 := Aside0.mk hi371_3
                    have HC371_3 := Aside0.mk hl371_3
                    clear hi371_3 hl371_3
                    have HR371_4 := Aside0.mk hi371_4
                    have HC371_4 := Aside0.mk hl371_4
                    clear hi371_4 hl371_4
                    have HR371_9 := Aside0.mk hi371_9
                    have HC371_9 := Aside0.mk hl371_9
                    clear hi371_9 hl371_9
                    replace p371 := eq_true p371
                    replace q371 := eq_true q371
                    go_wp2_with (first | ((with_reducible refine gate_builtin (b := .append) (xs := #[.tmp 28, .tmp 34]) rfl ?_); at_builtin; refine Kd.R_append (Kd.int .i64) (w0 := w) w.heap.size rfl (.tmp 28) (.tmp 34) 39 3 (.int .i64 0) 8 rfl Tryz.underlying39 info3 rfl (by decide) (by omega) u8 x8_1 ((rd_T68 l0 (rd t367 x24_1)).f0) [.int .i64 ((rd_T68 l0 (rd t367 x24_1)).f0)] (fun k_ => some k_ ≠ (.slice (some ad370) t367.length co8 : Value).ownBlock) (fun _ => False) rfl rfl ?aP (fun _ hk => hk.elim) ?aF ?aO ?aB ?aS ?aL ?_; (case aP => exact rfl); (case aB => exact (by repeat (first | (with_reducible first | exact HB.out | apply below_alloc | apply pw_below_drewN | apply below_drew1) | exact HB.out))); (case aF => exact (fun k_ hk => Kd.fresh' (Kd.R_lt (by (with_reducible repeat (first | apply Kd.R_alloc | apply Kd.R_drewN | apply Kd.R_drew)); exact HO_22.out)) k_ hk)); (case aO => exact (by (with_reducible repeat (first | apply Kd.R_alloc | apply Kd.R_drewN | apply Kd.R_drew)); exact HO_8.out)); (case aS => exact (below_size (by repeat (first | (with_reducible first | exact HB.out | apply below_alloc | apply pw_below_drewN | apply below_drew1) | exact HB.out)))); (case aL => have := LMc14.out; omega); intro v373 w15 ho hb hg hat; rw [← Ny372.out] at ho; have n0_ := Aside0.mk (Kd.R_after (ok := (fun _ => True)) (by (with_reducible repeat (first | apply Kd.R_alloc | apply Kd.R_drewN | apply Kd.R_drew)); exact Kd.R_mono HO_22.out (fun _ hk => ⟨trivial, hk⟩)) hg hat); have n1_ := Aside0.mk (hb); have n2_ := Aside0.mk (ho); clear HO_22; clear HB; clear HO_8; have HO_22 := n0_; have HB := n1_; have HO374 := n2_; clear n0_ n1_ n2_; clear ho hb hg hat))
                    go_roundg k1
                    case measure => have := HK1.out; omega
                    case rel => exact ⟨(y372), (wrap64 (x24_1 + 1)), (by first | rfl | (simp; done) | (simp [*]; done)), H', ⟨by have := HK1.out; omega⟩, ⟨by (with_reducible repeat (first | apply Kd.R_alloc | apply Kd.R_drewN | apply Kd.R_drew)); exact HO374.out⟩, ⟨by (with_reducible repeat (first | apply Kd.R_alloc | apply Kd.R_drewN | apply Kd.R_drew)); exact Kd.R_mono HO_22.out (fun _ hk => hk.2)⟩, ⟨by repeat (first | (with_reducible first | exact HB.out | apply below_alloc | apply pw_below_drewN | apply below_drew1) | exact HB.out)⟩⟩
                  · rw [if_neg c14] at H
                    exact absurd H (by simp)
                · rw [if_neg c13] at H
                  exact absurd H (by simp)
              · rw [if_neg c12] at H
                exact absurd H (by simp)
            · rw [if_neg c11] at H
              exact absurd H (by simp)
          · rw [if_neg c10] at H
            exact absurd H (by simp)
        · rw [if_neg c9] at H
          have c9b0 : decide (x24_1 < (t367.length : Int)) = false := decide_eq_false c9
          clear c9
          simp only [Option.some.injEq, Prod.mk.injEq] at H
          obtain ⟨rfl, rfl⟩ := H
          go_wp2
          go_ret2
          exact ⟨_, by first | rfl | (simp [errW_none, errW_some] <;> rfl) | (simp [*, errW_none, errW_some] <;> rfl), by (with_reducible repeat (first | apply Kd.R_alloc | apply Kd.R_drewN | apply Kd.R_drew)); exact Kd.R_mono HO_8.out (fun _ hk => trivial), by repeat (first | (with_reducible first | exact HB.out | apply below_alloc | apply pw_below_drewN | apply below_drew1) | exact HB.out)⟩
  · rw [if_neg c4] at H
    have c4b0 : (t366 == 0) = false := beq_eq_false_iff_ne.mpr c4
    have c4b1 : (t366 != 0) = true := bne_iff_ne.mpr c4
    simp only [Option.some.injEq, Prod.mk.injEq] at H
    obtain ⟨rfl, rfl⟩ := H
    go_enter Tryz.func21, Tryz.ntmps21
    go_wp2_with (first | ((with_reducible refine gate_callee (f := 63) rfl ?_); refine goesL_ (some 14) rfl rfl Tryz.func63 (by kernel_rfl) rfl #[.slice A0 l0.length c0, .int .i64 a1] rfl (by (try simp only [List.map_toArray, List.map_cons, List.map_nil]); first | done | rfl | (simp only [List.length_drop, List.length_take]; rfl)) ?_; (with_reducible refine (item_ready.calls _ _ l0 a1 t365 t366 _ ?side1 ?side2 A3.out).mono ?_); (case side1 => repeat (first | exact HR0.out | (with_reducible refine Kd.C_alloc ?_ _) | (with_reducible refine Kd.C_drewN ?_ _) | (with_reducible refine Kd.C_drew ?_))); (case side2 => exact HC0.out); rintro e w16 ⟨rfl, hb⟩; refine ⟨_, rfl, ?_⟩; have n0_ := Aside0.mk (below_step (by repeat (first | (with_reducible first | exact HB.out | apply below_alloc | apply pw_below_drewN | apply below_drew1) | exact HB.out)) hb); clear HB; have HB := n0_; clear n0_; (try clear hb); (try clear hb2); (try clear hk); (try clear hi)))
    go_ret2
    exact ⟨_, by first | rfl | (simp [errW_none, errW_some] <;> rfl) | (simp [*, errW_none, errW_some] <;> rfl), by first | exact Kd.R_nil _ _ _ _ _ | exact Kd.N_nil _ _ _ _ _ | exact Kd.V_nil _ _ _ _ _ | exact Kd.Q_nil _ _ _ _ _ | exact Kd.S_nil _ _ _ _ _, by repeat (first | (with_reducible first | exact HB.out | apply below_alloc | apply pw_below_drewN | apply below_drew1) | exact HB.out)⟩
end Go.Proofs.YtphkionjjhhhlaaGreat.Q
end
section
namespace Go.Proofs.YtphkionjjhhhlaaGreat.Q
open Go.RowKit Go.Proofs.YtphkionjjhhhlaaGreatW.PrintWords Go.Proofs.YtphkionjjhhhlaaGreatW.PrintLast Go.Proofs.YtphkionjjhhhlaaGreatW.PrintMore
def dioramaref15_asked.f (k : Nat) (l0 : List (S68)) (a1 : Int) : Option (List Int × Int) := (dioramaref15_Check.f k l0).bind fun bt391 => (if bt391.1 = 0 then ((dioramaref15_find.f k l0 a1).bind fun t393 => (if t393 < 0 then (some (([] : List Int), 5)) else ((dioramaref15_visit.f k l0 t393 ([] : List Int)).bind fun t394 => (some (t394, 0))))) else (some (([] : List Int), bt391.1)))
set_option maxHeartbeats 8000000 in
set_option maxRecDepth 100000 in
theorem dioramaref15_asked.calls (k : Nat) (A0 : Option Addr) (c0 : Nat) (l0 : List (S68)) (a1 : Int) (r1 : List Int) (r2 : Int) (w : World) (hr0 : Kd.C k68 w A0 l0.length l0) (hc0 : l0.length ≤ c0) (h : dioramaref15_asked.f k l0 a1 = some (r1, r2)) :
    Calls Tryz.prog 65 #[.slice A0 l0.length c0, .int .i64 a1] w fun e w' => ∃ v0_ : Value, e = .returned (.tuple #[v0_, .int .i64 r2]) ∧ Kd.V (Kd.int .i64) 3 w' w.heap.size (fun k_ => (w.heap.size ≤ k_)) v0_ r1 ∧ Below w.heap.size w w' := by
  have HR0 := Aside0.mk hr0
  have HC0 := Aside0.mk hc0
  clear hr0 hc0
  have HB := Aside0.mk (Below.refl w.heap.size w)
  have H : ((dioramaref15_Check.f k l0).bind fun bt391 => (if bt391.1 = 0 then ((dioramaref15_find.f k l0 a1).bind fun t393 => (if t393 < 0 then (some (([] : List Int), 5)) else ((dioramaref15_visit.f k l0 t393 ([] : List Int)).bind fun t394 => (some (t394, 0))))) else (some (([] : List Int), bt391.1)))) = some (r1, r2) := h
  clear h
  replace H := Option.bind_eq_some_iff.mp H
  obtain ⟨⟨t391, t392⟩, A30, H⟩ := H
  replace H : (if t391 = 0 then ((dioramaref15_find.f k l0 a1).bind fun t393 => (if t393 < 0 then (some (([] : List Int), 5)) else ((dioramaref15_visit.f k l0 t393 ([] : List Int)).bind fun t394 => (some (t394, 0))))) else (some (([] : List Int), t391))) = some (r1, r2) := H
  have A3 := Aside0.mk A30
  clear A30
  by_cases c4 : t391 = 0
  · rw [if_pos c4] at H
    have c4b0 : (t391 == 0) = true := beq_iff_eq.mpr c4
    have c4b1 : (t391 != 0) = false := bne_eq_false_iff_eq.mpr c4
    clear c4
    replace H := Option.bind_eq_some_iff.mp H
    obtain ⟨t393, A50, H⟩ := H
    replace H : (if t393 < 0 then (some (([] : List Int), 5)) else ((dioramaref15_visit.f k l0 t393 ([] : List Int)).bind fun t394 => (some (t394, 0)))) = some (r1, r2) := H
    have A5 := Aside0.mk A50
    clear A50
    by_cases c6 : t393 < 0
    · rw [if_pos c6] at H
      have c6b0 : decide (t393 < 0) = true := decide_eq_true c6
      clear c6
      simp only [Option.some.injEq, Prod.mk.injEq] at H
      obtain ⟨rfl, rfl⟩ := H
      go_enter Tryz.func65, Tryz.ntmps65
      go_wp2_with (first | ((with_reducible refine gate_callee (f := 20) rfl ?_); refine goesL_ (some 11) rfl rfl Tryz.func20 (by kernel_rfl) rfl #[.slice A0 l0.length c0] rfl (by (try simp only [List.map_toArray, List.map_cons, List.map_nil]); first | done | rfl | (simp only [List.length_drop, List.length_take]; rfl)) ?_; (with_reducible refine (dioramaref15_Check.calls k _ _ l0 t391 t392 _ ?side1 ?side2 A3.out).mono ?_); (case side1 => repeat (first | exact HR0.out | (with_reducible refine Kd.C_alloc ?_ _) | (with_reducible refine Kd.C_drewN ?_ _) | (with_reducible refine Kd.C_drew ?_))); (case side2 => exact HC0.out); rintro e w7 ⟨rfl, hb⟩; refine ⟨_, rfl, ?_⟩; have n0_ := Aside0.mk (below_step (by repeat (first | (with_reducible first | exact HB.out | apply below_alloc | apply pw_below_drewN | apply below_drew1) | exact HB.out)) hb); clear HB; have HB := n0_; clear n0_; (try clear hb); (try clear hb2); (try clear hk); (try clear hi)) | ((with_reducible refine gate_callee (f := 61) rfl ?_); refine goesL_ (some 19) rfl rfl Tryz.func61 (by kernel_rfl) rfl #[.slice A0 l0.length c0, .int .i64 a1] rfl (by (try simp only [List.map_toArray, List.map_cons, List.map_nil]); first | done | rfl | (simp only [List.length_drop, List.length_take]; rfl)) ?_; (with_reducible refine (dioramaref15_find.calls k _ _ l0 a1 t393 _ ?side1 ?side2 A5.out).mono ?_); (case side1 => repeat (first | exact (Kd.C_below HR0.out HB.out) | (with_reducible refine Kd.C_alloc ?_ _) | (with_reducible refine Kd.C_drewN ?_ _) | (with_reducible refine Kd.C_drew ?_))); (case side2 => exact HC0.out); rintro e w' ⟨rfl, ⟨nd, rfl⟩⟩; refine ⟨_, rfl, ?_⟩))
      go_ret2
      exact ⟨_, by first | rfl | (simp [errW_none, errW_some] <;> rfl) | (simp [*, errW_none, errW_some] <;> rfl), Kd.R_V (base := w.heap.size) (by show (Kd.int .i64).R 3 _ w.heap.size _ (.slice none 0 0) []; exact Kd.R_nil _ _ _ _ _), by repeat (first | (with_reducible first | exact HB.out | apply below_alloc | apply pw_below_drewN | apply below_drew1) | exact HB.out)⟩
    · rw [if_neg c6] at H
      have c6b0 : decide (t393 < 0) = false := decide_eq_false c6
      clear c6
      replace H := Option.bind_eq_some_iff.mp H
      obtain ⟨t394, A80, H⟩ := H
      replace H : (some (t394, 0)) = some (r1, r2) := H
      have A8 := Aside0.mk A80
      clear A80
      simp only [Option.some.injEq, Prod.mk.injEq] at H
      obtain ⟨rfl, rfl⟩ := H
      go_enter Tryz.func65, Tryz.ntmps65
      go_wp2_with (first | ((with_reducible refine gate_callee (f := 20) rfl ?_); refine goesL_ (some 11) rfl rfl Tryz.func20 (by kernel_rfl) rfl #[.slice A0 l0.length c0] rfl (by (try simp only [List.map_toArray, List.map_cons, List.map_nil]); first | done | rfl | (simp only [List.length_drop, List.length_take]; rfl)) ?_; (with_reducible refine (dioramaref15_Check.calls k _ _ l0 t391 t392 _ ?side1 ?side2 A3.out).mono ?_); (case side1 => repeat (first | exact HR0.out | (with_reducible refine Kd.C_alloc ?_ _) | (with_reducible refine Kd.C_drewN ?_ _) | (with_reducible refine Kd.C_drew ?_))); (case side2 => exact HC0.out); rintro e w9 ⟨rfl, hb⟩; refine ⟨_, rfl, ?_⟩; have n0_ := Aside0.mk (below_step (by repeat (first | (with_reducible first | exact HB.out | apply below_alloc | apply pw_below_drewN | apply below_drew1) | exact HB.out)) hb); clear HB; have HB := n0_; clear n0_; (try clear hb); (try clear hb2); (try clear hk); (try clear hi)) | ((with_reducible refine gate_callee (f := 61) rfl ?_); refine goesL_ (some 19) rfl rfl Tryz.func61 (by kernel_rfl) rfl #[.slice A0 l0.length c0, .int .i64 a1] rfl (by (try simp only [List.map_toArray, List.map_cons, List.map_nil]); first | done | rfl | (simp only [List.length_drop, List.length_take]; rfl)) ?_; (with_reducible refine (dioramaref15_find.calls k _ _ l0 a1 t393 _ ?side1 ?side2 A5.out).mono ?_); (case side1 => repeat (first | exact (Kd.C_below HR0.out HB.out) | (with_reducible refine Kd.C_alloc ?_ _) | (with_reducible refine Kd.C_drewN ?_ _) | (with_reducible refine Kd.C_drew ?_))); (case side2 => exact HC0.out); rintro e w' ⟨rfl, ⟨nd, rfl⟩⟩; refine ⟨_, rfl, ?_⟩) | ((with_reducible refine gate_callee (f := 118) rfl ?_); refine goesL_ (some 24) rfl rfl Tryz.func118 (by kernel_rfl) rfl #[.slice A0 l0.length c0, .int .i64 t393, .slice none 0 0] rfl (by (try simp only [List.map_toArray, List.map_cons, List.map_nil]); first | done | rfl | (simp only [List.length_drop, List.length_take]; rfl)) ?_; (refine (dioramaref15_visit.calls k _ _ l0 t393 (fun k_ => False) _ _ ([] : List Int) t394 _ ?side1 ?side2 ?side3 A8.out).mono ?_); (case side1 => repeat (first | exact (Kd.C_below HR0.out (by repeat (first | (with_reducible first | exact HB.out | apply below_alloc | apply pw_below_drewN | apply below_drew1) | exact HB.out))) | (with_reducible refine Kd.C_alloc ?_ _) | (with_reducible refine Kd.C_drewN ?_ _) | (with_reducible refine Kd.C_drew ?_))); (case side2 => exact HC0.out); (case side3 => exact Kd.V_nil _ _ _ _ _); rintro e w10 ⟨v395, rfl, ho0, hb⟩; refine ⟨_, rfl, ?_⟩; have n0_ := Aside0.mk (Kd.V_lower (Kd.V_mono (ok' := fun k_ => (w.heap.size ≤ k_)) ho0 (fun k_ hk_ => Or.elim hk_ (fun hs_ => (hs_).elim) (fun hn_ => (Nat.le_trans (below_size (by repeat (first | (with_reducible first | exact HB.out | apply below_alloc | apply pw_below_drewN | apply below_drew1) | exact HB.out))) hn_)))) (below_size (by repeat (first | (with_reducible first | exact HB.out | apply below_alloc | apply pw_below_drewN | apply below_drew1) | exact HB.out)))); have n1_ := Aside0.mk (below_step (by repeat (first | (with_reducible first | exact HB.out | apply below_alloc | apply pw_below_drewN | apply below_drew1) | exact HB.out)) hb); clear HB; have HO396 := n0_; have HB := n1_; clear n0_ n1_; (try clear hb); (try clear hb2); (try clear hk); (try clear hi); (try clear ho0)))
      go_ret2
      exact ⟨_, by first | rfl | (simp [errW_none, errW_some] <;> rfl) | (simp [*, errW_none, errW_some] <;> rfl), by (with_reducible repeat (first | apply Kd.V_alloc | apply Kd.V_drewN | apply Kd.V_drew)); exact HO396.out, by repeat (first | (with_reducible first | exact HB.out | apply below_alloc | apply pw_below_drewN | apply below_drew1) | exact HB.out)⟩
  · rw [if_neg c4] at H
    have c4b0 : (t391 == 0) = false := beq_eq_false_iff_ne.mpr c4
    have c4b1 : (t391 != 0) = true := bne_iff_ne.mpr c4
    simp only [Option.some.injEq, Prod.mk.injEq] at H
    obtain ⟨rfl, rfl⟩ := H
    go_enter Tryz.func65, Tryz.ntmps65
    go_wp2_with (first | ((with_reducible refine gate_callee (f := 20) rfl ?_); refine goesL_ (some 11) rfl rfl Tryz.func20 (by kernel_rfl) rfl #[.slice A0 l0.length c0] rfl (by (try simp only [List.map_toArray, List.map_cons, List.map_nil]); first | done | rfl | (simp only [List.length_drop, List.length_take]; rfl)) ?_; (with_reducible refine (dioramaref15_Check.calls k _ _ l0 t391 t392 _ ?side1 ?side2 A3.out).mono ?_); (case side1 => repeat (first | exact HR0.out | (with_reducible refine Kd.C_alloc ?_ _) | (with_reducible refine Kd.C_drewN ?_ _) | (with_reducible refine Kd.C_drew ?_))); (case side2 => exact HC0.out); rintro e w11 ⟨rfl, hb⟩; refine ⟨_, rfl, ?_⟩; have n0_ := Aside0.mk (below_step (by repeat (first | (with_reducible first | exact HB.out | apply below_alloc | apply pw_below_drewN | apply below_drew1) | exact HB.out)) hb); clear HB; have HB := n0_; clear n0_; (try clear hb); (try clear hb2); (try clear hk); (try clear hi)))
    go_ret2
    exact ⟨_, by first | rfl | (simp [errW_none, errW_some] <;> rfl) | (simp [*, errW_none, errW_some] <;> rfl), Kd.R_V (base := w.heap.size) (by show (Kd.int .i64).R 3 _ w.heap.size _ (.slice none 0 0) []; exact Kd.R_nil _ _ _ _ _), by repeat (first | (with_reducible first | exact HB.out | apply below_alloc | apply pw_below_drewN | apply below_drew1) | exact HB.out)⟩
end Go.Proofs.YtphkionjjhhhlaaGreat.Q
end
section
namespace Go.Proofs.YtphkionjjhhhlaaGreat.Q
open Go.RowKit Go.Proofs.YtphkionjjhhhlaaGreatW.PrintWords Go.Proofs.YtphkionjjhhhlaaGreatW.PrintLast Go.Proofs.YtphkionjjhhhlaaGreatW.PrintMore
def dioramaref15_Needs.l0 : Nat → List (S68) → List Int → List Int → Int → Option (List Int × Int)
  | 0, _, _, _, _ => none
  | k + 1, x0, x6, x8, x9 => if x9 < (x6.length : Int) then (if 0 ≤ x9 then (if 0 ≤ (rd x6 x9) then (if (rd x6 x9) < (x0.length : Int) then (if x8.length < 17592186044416 then (dioramaref15_Needs.l0 k x0 x6 (x8 ++ [(rd_T68 x0 (rd x6 x9)).f0]) (wrap64 (x9 + 1))) else (none)) else (none)) else (none)) else (none)) else (some (x8, 0))
def dioramaref15_Needs.f (k : Nat) (l0 : List (S68)) (a1 : Int) : Option (List Int × Int) := (dioramaref15_asked.f k l0 a1).bind fun bt397 => (if bt397.2 = 0 then (dioramaref15_Needs.l0 k l0 bt397.1 ([] : List Int) 0) else (some (([] : List Int), bt397.2)))
set_option maxHeartbeats 8000000 in
set_option maxRecDepth 100000 in
theorem dioramaref15_Needs.calls (k : Nat) (A0 : Option Addr) (c0 : Nat) (l0 : List (S68)) (a1 : Int) (r1 : List Int) (r2 : Int) (w : World) (hr0 : Kd.C k68 w A0 l0.length l0) (hc0 : l0.length ≤ c0) (h : dioramaref15_Needs.f k l0 a1 = some (r1, r2)) :
    Calls Tryz.prog 22 #[.slice A0 l0.length c0, .int .i64 a1] w fun e w' => ∃ v0_ : Value, e = .returned (.tuple #[v0_, .int .i64 r2]) ∧ Kd.R (Kd.int .i64) 3 w' w.heap.size (fun _ => True) v0_ r1 ∧ Below w.heap.size w w' := by
  have HR0 := Aside0.mk hr0
  have HC0 := Aside0.mk hc0
  clear hr0 hc0
  have HB := Aside0.mk (Below.refl w.heap.size w)
  have H : ((dioramaref15_asked.f k l0 a1).bind fun bt397 => (if bt397.2 = 0 then (dioramaref15_Needs.l0 k l0 bt397.1 ([] : List Int) 0) else (some (([] : List Int), bt397.2)))) = some (r1, r2) := h
  clear h
  replace H := Option.bind_eq_some_iff.mp H
  obtain ⟨⟨t397, t400⟩, A30, H⟩ := H
  replace H : (if t400 = 0 then (dioramaref15_Needs.l0 k l0 t397 ([] : List Int) 0) else (some (([] : List Int), t400))) = some (r1, r2) := H
  have A3 := Aside0.mk A30
  clear A30
  by_cases c4 : t400 = 0
  · rw [if_pos c4] at H
    have c4b0 : (t400 == 0) = true := beq_iff_eq.mpr c4
    have c4b1 : (t400 != 0) = false := bne_eq_false_iff_eq.mpr c4
    clear c4
    have H' := Aside0.mk H
    clear H
    go_enter Tryz.func22, Tryz.ntmps22
    go_wp2_with (first | ((with_reducible refine gate_callee (f := 65) rfl ?_); refine goesL_ (some 13) rfl rfl Tryz.func65 (by kernel_rfl) rfl #[.slice A0 l0.length c0, .int .i64 a1] rfl (by (try simp only [List.map_toArray, List.map_cons, List.map_nil]); first | done | rfl | (simp only [List.length_drop, List.length_take]; rfl)) ?_; (with_reducible refine (dioramaref15_asked.calls k _ _ l0 a1 t397 t400 _ ?side1 ?side2 A3.out).mono ?_); (case side1 => repeat (first | exact HR0.out | (with_reducible refine Kd.C_alloc ?_ _) | (with_reducible refine Kd.C_drewN ?_ _) | (with_reducible refine Kd.C_drew ?_))); (case side2 => exact HC0.out); rintro e w5 ⟨v398, rfl, ho0, hb⟩; refine ⟨_, rfl, ?_⟩; have n0_ := Aside0.mk (Kd.V_lower (Kd.V_mono (ok' := fun k_ => True) ho0 (fun k_ hk_ => trivial)) (below_size (by repeat (first | (with_reducible first | exact HB.out | apply below_alloc | apply pw_below_drewN | apply below_drew1) | exact HB.out)))); have n1_ := Aside0.mk (below_step (by repeat (first | (with_reducible first | exact HB.out | apply below_alloc | apply pw_below_drewN | apply below_drew1) | exact HB.out)) hb); clear HB; have HO399 := n0_; have HB := n1_; clear n0_ n1_; (try clear hb); (try clear hb2); (try clear hk); (try clear hi); (try clear ho0)))
    go_loopg [8, 9] k (fun kq v8 v9 w' => ∃ (x8_1 : List Int) (x9_1 : Int), v9 = .int .i64 x9_1 ∧ Aside0 (dioramaref15_Needs.l0 kq l0 t397 x8_1 x9_1 = some (r1, r2)) ∧ Aside0 (kq ≤ k) ∧ Aside0 (Kd.V (Kd.int .i64) 3 w' w.heap.size (fun k_ => some k_ ≠ (v8 : Value).ownBlock) v398 t397) ∧ Aside0 (Kd.R (Kd.int .i64) 3 w' w.heap.size (fun _ => True) v8 x8_1) ∧ Aside0 (Below w.heap.size w w'))
    case atStart => exact ⟨(([] : List Int)), (0), (by first | rfl | (simp; done) | (simp [*]; done)), H', ⟨Nat.le_refl _⟩, ⟨by (with_reducible repeat (first | apply Kd.V_alloc | apply Kd.V_drewN | apply Kd.V_drew)); exact Kd.V_mono HO399.out (fun _ hk => (by simp [Value.ownBlock]))⟩, ⟨by first | exact Kd.R_nil _ _ _ _ _ | exact Kd.N_nil _ _ _ _ _ | exact Kd.V_nil _ _ _ _ _ | exact Kd.Q_nil _ _ _ _ _ | exact Kd.S_nil _ _ _ _ _⟩, ⟨by repeat (first | (with_reducible first | exact HB.out | apply below_alloc | apply pw_below_drewN | apply below_drew1) | exact HB.out)⟩⟩
    case round =>
      clear H'
      try clear c2
      try clear p2
      try clear c4
      try clear c4b0
      try clear c4b1
      obtain ⟨x8_1, x9_1, rfl, HA, HK1, HO_6, HO_8, HB⟩ := hrel
      cases gk with
      | zero => exact absurd HA.out (by simp [dioramaref15_Needs.l0])
      | succ k1 =>
        have H := HA.out
        clear HA
        simp only [dioramaref15_Needs.l0] at H
        by_cases c6 : x9_1 < (t397.length : Int)
        · rw [if_pos c6] at H
          have c6b0 : decide (x9_1 < (t397.length : Int)) = true := decide_eq_true c6
          clear c6
          by_cases c7 : 0 ≤ x9_1
          · rw [if_pos c7] at H
            have c7b0 : decide (0 ≤ x9_1) = true := decide_eq_true c7
            clear c7
            by_cases c8 : 0 ≤ (rd t397 x9_1)
            · rw [if_pos c8] at H
              have c8b0 : decide (0 ≤ (rd t397 x9_1)) = true := decide_eq_true c8
              clear c8
              by_cases c9 : (rd t397 x9_1) < (l0.length : Int)
              · rw [if_pos c9] at H
                have c9b0 : decide ((rd t397 x9_1) < (l0.length : Int)) = true := decide_eq_true c9
                clear c9
                by_cases c10 : x8_1.length < 17592186044416
                · rw [if_pos c10] at H
                  have LMc10 := Aside0.mk c10
                  clear c10
                  obtain ⟨y403, hy403⟩ : ∃ y_ : List Int, y_ = (x8_1 ++ [(rd_T68 l0 (rd t397 x9_1)).f0]) := ⟨_, rfl⟩
                  replace H : (dioramaref15_Needs.l0 k1 l0 t397 y403 (wrap64 (x9_1 + 1))) = some (r1, r2) := by first | (rw [hy403]; with_reducible exact H) | (have H2_ := (Option.bind_some _ _).symm.trans H; rw [hy403]; with_reducible exact H2_) | (have H2_ := (Option.bind_some _ _).symm.trans H; with_reducible exact H2_) | with_reducible exact H | (rw [hy403]; exact H) | exact H
                  have Ny403 := Aside0.mk hy403
                  clear hy403
                  have H' := Aside0.mk H
                  clear H
                  obtain ⟨Ao11, co11, eo11⟩ := Kd.V_slice HO_6.out
                  subst eo11
                  have p401 : 0 ≤ (x9_1 : Int) := of_decide_eq_true (by first | (with_reducible assumption) | assumption)
                  have q401 : x9_1 < (t397.length : Int) := of_decide_eq_true (by first | (with_reducible assumption) | assumption)
                  obtain ⟨ad401, e401, hx401_0⟩ := Kd.at_int (Kd.V_reads' HO_6.out).2.2 x9_1 p401 q401
                  cases e401
                  replace p401 := eq_true p401
                  replace q401 := eq_true q401
                  have p402 : 0 ≤ ((rd t397 x9_1) : Int) := of_decide_eq_true (by first | (with_reducible assumption) | assumption)
                  have q402 : (rd t397 x9_1) < (l0.length : Int) := of_decide_eq_true (by first | (with_reducible assumption) | assumption)
                  obtain ⟨ad402, A402_2, c402_2, A402_3, c402_3, A402_4, c402_4, A402_9, c402_9, e402, hx402_0, hx402_1, hx402_2, hx402_3, hx402_4, hx402_5, hx402_6, hx402_7, hx402_8, hx402_9, hx402_10, hx402_11, hl402_2, hi402_2, hl402_3, hi402_3, hl402_4, hi402_4, hl402_9, hi402_9⟩ := at_T68 HR0.out (rd t397 x9_1) p402 q402
                  cases e402
                  replace hx402_0 := (HB.out.cell (World.block_lt_of_cell? w _ hx402_0)).trans hx402_0
                  replace hx402_1 := (HB.out.cell (World.block_lt_of_cell? w _ hx402_1)).trans hx402_1
                  replace hx402_2 := (HB.out.cell (World.block_lt_of_cell? w _ hx402_2)).trans hx402_2
                  replace hx402_3 := (HB.out.cell (World.block_lt_of_cell? w _ hx402_3)).trans hx402_3
                  replace hx402_4 := (HB.out.cell (World.block_lt_of_cell? w _ hx402_4)).trans hx402_4
                  replace hx402_5 := (HB.out.cell (World.block_lt_of_cell? w _ hx402_5)).trans hx402_5
                  replace hx402_6 := (HB.out.cell (World.block_lt_of_cell? w _ hx402_6)).trans hx402_6
                  replace hx402_7 := (HB.out.cell (World.block_lt_of_cell? w _ hx402_7)).trans hx402_7
                  replace hx402_8 := (HB.out.cell (World.block_lt_of_cell? w _ hx402_8)).trans hx402_8
                  replace hx402_9 := (HB.out.cell (World.block_lt_of_cell? w _ hx402_9)).trans hx402_9
                  replace hx402_10 := (HB.out.cell (World.block_lt_of_cell? w _ hx402_10)).trans hx402_10
                  replace hx402_11 := (HB.out.cell (World.block_lt_of_cell? w _ hx402_11)).trans hx402_11
                  have HR402_2 := Aside0.mk hi402_2
                  have HC402_2 := Aside0.mk hl402_2
                  clear hi402_2 hl402_2
                  have HR402_3 := Aside0.mk hi402_3
                  have HC402_3 := Aside0.mk hl402_3
                  clear hi402_3 hl402_3
                  have HR402_4 := Aside0.mk hi402_4
                  have HC402_4 := Aside0.mk hl402_4
                  clear hi402_4 hl402_4
                  have HR402_9 := Aside0.mk hi402_9
                  have HC402_9 := Aside0.mk hl402_9
                  clear hi402_9 hl402_9
                  replace p402 := eq_true p402
                  replace q402 := eq_true q402
                  go_wp2_with (first | ((with_reducible refine gate_builtin (b := .append) (xs := #[.tmp 25, .tmp 34]) rfl ?_); at_builtin; refine Kd.R_append (Kd.int .i64) (w0 := w) w.heap.size rfl (.tmp 25) (.tmp 34) 39 3 (.int .i64 0) 8 rfl Tryz.underlying39 info3 rfl (by decide) (by omega) u8 x8_1 ((rd_T68 l0 (rd t397 x9_1)).f0) [.int .i64 ((rd_T68 l0 (rd t397 x9_1)).f0)] (fun _ => True) (fun _ => False) rfl rfl ?aP (fun _ hk => hk.elim) ?aF ?aO ?aB ?aS ?aL ?_; (case aP => exact rfl); (case aB => exact (by repeat (first | (with_reducible first | exact HB.out | apply below_alloc | apply pw_below_drewN | apply below_drew1) | exact HB.out))); (case aF => exact (fun _ _ => trivial)); (case aO => exact (by (with_reducible repeat (first | apply Kd.R_alloc | apply Kd.R_drewN | apply Kd.R_drew)); exact HO_8.out)); (case aS => exact (below_size (by repeat (first | (with_reducible first | exact HB.out | apply below_alloc | apply pw_below_drewN | apply below_drew1) | exact HB.out)))); (case aL => have := LMc10.out; omega); intro v404 w12 ho hb hg hat; rw [← Ny403.out] at ho; have n0_ := Aside0.mk (Kd.V_afterv (ok := (fun _ => True)) (by (with_reducible repeat (first | apply Kd.V_alloc | apply Kd.V_drewN | apply Kd.V_drew)); exact Kd.V_mono HO_6.out (fun _ hk => ⟨trivial, hk⟩)) hg hat); have n1_ := Aside0.mk (hb); have n2_ := Aside0.mk (ho); clear HO_6; clear HB; clear HO_8; have HO_6 := n0_; have HB := n1_; have HO405 := n2_; clear n0_ n1_ n2_; clear ho hb hg hat))
                  go_roundg k1
                  case measure => have := HK1.out; omega
                  case rel => exact ⟨(y403), (wrap64 (x9_1 + 1)), (by first | rfl | (simp; done) | (simp [*]; done)), H', ⟨by have := HK1.out; omega⟩, ⟨by (with_reducible repeat (first | apply Kd.V_alloc | apply Kd.V_drewN | apply Kd.V_drew)); exact Kd.V_mono HO_6.out (fun _ hk => hk.2)⟩, ⟨by (with_reducible repeat (first | apply Kd.R_alloc | apply Kd.R_drewN | apply Kd.R_drew)); exact HO405.out⟩, ⟨by repeat (first | (with_reducible first | exact HB.out | apply below_alloc | apply pw_below_drewN | apply below_drew1) | exact HB.out)⟩⟩
                · rw [if_neg c10] at H
                  exact absurd H (by simp)
              · rw [if_neg c9] at H
                exact absurd H (by simp)
            · rw [if_neg c8] at H
              exact absurd H (by simp)
          · rw [if_neg c7] at H
            exact absurd H (by simp)
        · rw [if_neg c6] at H
          have c6b0 : decide (x9_1 < (t397.length : Int)) = false := decide_eq_false c6
          clear c6
          simp only [Option.some.injEq, Prod.mk.injEq] at H
          obtain ⟨rfl, rfl⟩ := H
          obtain ⟨Ao13, co13, eo13⟩ := Kd.V_slice HO_6.out
          subst eo13
          go_wp2
          go_ret2
          exact ⟨_, by first | rfl | (simp [errW_none, errW_some] <;> rfl) | (simp [*, errW_none, errW_some] <;> rfl), by (with_reducible repeat (first | apply Kd.R_alloc | apply Kd.R_drewN | apply Kd.R_drew)); exact HO_8.out, by repeat (first | (with_reducible first | exact HB.out | apply below_alloc | apply pw_below_drewN | apply below_drew1) | exact HB.out)⟩
  · rw [if_neg c4] at H
    have c4b0 : (t400 == 0) = false := beq_eq_false_iff_ne.mpr c4
    have c4b1 : (t400 != 0) = true := bne_iff_ne.mpr c4
    simp only [Option.some.injEq, Prod.mk.injEq] at H
    obtain ⟨rfl, rfl⟩ := H
    go_enter Tryz.func22, Tryz.ntmps22
    go_wp2_with (first | ((with_reducible refine gate_callee (f := 65) rfl ?_); refine goesL_ (some 13) rfl rfl Tryz.func65 (by kernel_rfl) rfl #[.slice A0 l0.length c0, .int .i64 a1] rfl (by (try simp only [List.map_toArray, List.map_cons, List.map_nil]); first | done | rfl | (simp only [List.length_drop, List.length_take]; rfl)) ?_; (with_reducible refine (dioramaref15_asked.calls k _ _ l0 a1 t397 t400 _ ?side1 ?side2 A3.out).mono ?_); (case side1 => repeat (first | exact HR0.out | (with_reducible refine Kd.C_alloc ?_ _) | (with_reducible refine Kd.C_drewN ?_ _) | (with_reducible refine Kd.C_drew ?_))); (case side2 => exact HC0.out); rintro e w14 ⟨v398, rfl, ho0, hb⟩; refine ⟨_, rfl, ?_⟩; have n0_ := Aside0.mk (Kd.V_lower (Kd.V_mono (ok' := fun k_ => True) ho0 (fun k_ hk_ => trivial)) (below_size (by repeat (first | (with_reducible first | exact HB.out | apply below_alloc | apply pw_below_drewN | apply below_drew1) | exact HB.out)))); have n1_ := Aside0.mk (below_step (by repeat (first | (with_reducible first | exact HB.out | apply below_alloc | apply pw_below_drewN | apply below_drew1) | exact HB.out)) hb); clear HB; have HO399 := n0_; have HB := n1_; clear n0_ n1_; (try clear hb); (try clear hb2); (try clear hk); (try clear hi); (try clear ho0)))
    go_ret2
    exact ⟨_, by first | rfl | (simp [errW_none, errW_some] <;> rfl) | (simp [*, errW_none, errW_some] <;> rfl), by first | exact Kd.R_nil _ _ _ _ _ | exact Kd.N_nil _ _ _ _ _ | exact Kd.V_nil _ _ _ _ _ | exact Kd.Q_nil _ _ _ _ _ | exact Kd.S_nil _ _ _ _ _, by repeat (first | (with_reducible first | exact HB.out | apply below_alloc | apply pw_below_drewN | apply below_drew1) | exact HB.out)⟩
end Go.Proofs.YtphkionjjhhhlaaGreat.Q
end
